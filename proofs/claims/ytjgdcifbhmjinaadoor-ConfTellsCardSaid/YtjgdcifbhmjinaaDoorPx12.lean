/- Printed by a program of this workplace (a turned copy of the kit's optional print), out of the translation; not trusted: Lean checks it. -/
import Derived.Test.YtjgdcifbhmjinaaDoorPx0
import Derived.Test.YtjgdcifbhmjinaaDoorPx9
import Derived.Test.YtjgdcifbhmjinaaDoorPx11
namespace Go.Proofs.YtjgdcifbhmjinaaDoor.P
open Go.RowKit Go.Proofs.YtjgdcifbhmjinaaDoorW.PrintWords Go.Proofs.YtjgdcifbhmjinaaDoorW.PrintLast Go.Proofs.YtjgdcifbhmjinaaDoorW.PrintMore
attribute [local go_sem] max2_int min2_int max_two min_two max_three min_three max_four min_four   -- for this text's walks alone
set_option linter.unusedVariables false
set_option linter.unusedSimpArgs false

/-! ### tontineref1_IsConf: function 8 -/
mutual
def tontineref1_IsConf.j0 : Nat → Int → Bool → Int → Int → List (List Int) → List (S40) → Option (Int)
  | 0, _, _, _, _, _, _ => none
  | k + 1, x3, x25, x281000, x281001, x281002, x281003 => if x25 = true then (some 10) else (tontineref1_IsConf.l0 k x3 0 x281000 x281001 x281002 x281003)
def tontineref1_IsConf.l0 : Nat → Int → Int → Int → Int → List (List Int) → List (S40) → Option (Int)
  | 0, _, _, _, _, _, _ => none
  | k + 1, x3, x4, x281000, x281001, x281002, x281003 => if x4 < x3 then (if 0 ≤ x4 then (if x4 < (x281003.length : Int) then ((tontineref1_IsLabel.f ((rd_T40 x281003 x4).f0.f0) ((rd_T40 x281003 x4).f0.f1)).bind fun t285 => (if t285 = true then (tontineref1_IsConf.l0 k x3 (wrap64 (x4 + 1)) x281000 x281001 x281002 x281003) else (some 10))) else (none)) else (none)) else ((tontineref1_shares.f k x281000 x281001 x281002 x281003).bind fun t286 => (if t286 = true then (tontineref1_IsConf.l1 k x3 0 x281000 x281001 x281002 x281003) else (some 18)))
def tontineref1_IsConf.l1 : Nat → Int → Int → Int → Int → List (List Int) → List (S40) → Option (Int)
  | 0, _, _, _, _, _, _ => none
  | k + 1, x3, x5, x281000, x281001, x281002, x281003 => if x5 < x3 then (if 0 ≤ x5 then (if x5 < (x281003.length : Int) then ((tontineref1_within.f ((rd_T40 x281003 x5).f4) 1 8).bind fun t289 => (if t289 = true then ((tontineref1_within.f ((rd_T40 x281003 x5).f5) 0 4).bind fun t290 => (if t290 = true then ((tontineref1_within.f ((rd_T40 x281003 x5).f6) 1 16).bind fun t291 => (if t291 = true then ((tontineref1_within.f ((rd_T40 x281003 x5).f7) 0 8).bind fun t292 => (if t292 = true then ((tontineref1_within.f ((rd_T40 x281003 x5).f8) 1 8).bind fun t293 => (if t293 = true then (tontineref1_IsConf.l1 k x3 (wrap64 (x5 + 1)) x281000 x281001 x281002 x281003) else (some 19))) else (some 19))) else (some 19))) else (some 19))) else (some 19))) else (none)) else (none)) else (tontineref1_IsConf.l2 k x3 0 x281000 x281001 x281002 x281003)
def tontineref1_IsConf.l2 : Nat → Int → Int → Int → Int → List (List Int) → List (S40) → Option (Int)
  | 0, _, _, _, _, _, _ => none
  | k + 1, x3, x7, x281000, x281001, x281002, x281003 => if x7 < x3 then ((tontineref1_routes.f k x281000 x281001 x281002 x281003 x7).bind fun t294 => (if t294 = true then (tontineref1_IsConf.l2 k x3 (wrap64 (x7 + 1)) x281000 x281001 x281002 x281003) else (some 17))) else (some 0)
end
def tontineref1_IsConf.f (k : Nat) (a0_0 : Int) (a0_1 : Int) (l0_2 : List (List Int)) (l0_3 : List (S40)) : Option (Int) := (tontineref1_within.f a0_0 1 64).bind fun t281 => (if t281 = true then ((tontineref1_within.f a0_1 1 8).bind fun t282 => (if t282 = true then ((tontineref1_within.f (l0_3.length : Int) 1 6).bind fun t283 => (tontineref1_IsConf.j0 k (l0_3.length : Int) (!t283) a0_0 a0_1 l0_2 l0_3)) else (tontineref1_IsConf.j0 k (l0_3.length : Int) true a0_0 a0_1 l0_2 l0_3))) else (tontineref1_IsConf.j0 k (l0_3.length : Int) true a0_0 a0_1 l0_2 l0_3))
set_option maxHeartbeats 8000000 in
set_option maxRecDepth 100000 in
theorem tontineref1_IsConf.calls (k : Nat) (a0_0 : Int) (a0_1 : Int) (A0_2 : Option Addr) (c0_2 : Nat) (l0_2 : List (List Int)) (A0_3 : Option Addr) (c0_3 : Nat) (l0_3 : List (S40)) (r : Int) (w : World) (hr0_2 : Kd.C (Kd.slice 3 (Kd.int .i64)) w A0_2 l0_2.length l0_2) (hc0_2 : l0_2.length ≤ c0_2) (hr0_3 : Kd.C k40 w A0_3 l0_3.length l0_3) (hc0_3 : l0_3.length ≤ c0_3) (h : tontineref1_IsConf.f k a0_0 a0_1 l0_2 l0_3 = some r) :
    Calls Tryd.prog 8 #[.agg #[.int .i64 a0_0, .int .i64 a0_1, .slice A0_2 l0_2.length c0_2, .slice A0_3 l0_3.length c0_3]] w fun e w' => e = .returned (.int .i64 r) ∧ Below w.heap.size w w' := by
 have hu25 := Tryd.underlying25; have hu38 := Tryd.underlying38; have hu40 := Tryd.underlying40
 have HR0_2 := Goto.m0 hr0_2
 have HC0_2 := Goto.m0 hc0_2
 clear hr0_2 hc0_2
 have HR0_3 := Goto.m0 hr0_3
 have HC0_3 := Goto.m0 hc0_3
 clear hr0_3 hc0_3
 have HB := Goto.m0 (Below.refl w.heap.size w)
 have H : ((tontineref1_within.f a0_0 1 64).bind fun t281 => (if t281 = true then ((tontineref1_within.f a0_1 1 8).bind fun t282 => (if t282 = true then ((tontineref1_within.f (l0_3.length : Int) 1 6).bind fun t283 => (tontineref1_IsConf.j0 k (l0_3.length : Int) (!t283) a0_0 a0_1 l0_2 l0_3)) else (tontineref1_IsConf.j0 k (l0_3.length : Int) true a0_0 a0_1 l0_2 l0_3))) else (tontineref1_IsConf.j0 k (l0_3.length : Int) true a0_0 a0_1 l0_2 l0_3))) = some r := h
 clear h
 have HC2 := Goto.m0 H
 clear H
 go_enter Tryd.func8, Tryd.ntmps8
 go_upto_region 2 with (first | ((with_reducible refine gate_dst (N := 1) rfl ?_); refine box_event ?hg (N := 1) ?hd (cs := #[.int .i64 a0_0, .int .i64 a0_1, .slice A0_2 l0_2.length c0_2, .slice A0_3 l0_3.length c0_3]) (t := 25) ?hr ?_; (case hd => rfl); (case hg => rfl); (case hr => first | (go_simp; done) | (go_simp; rfl)); intro gb280 hg w3 hbox hb; have BK280 := Goto.m0 (hbox); have GW280 := Goto.gs HB hg; have GE280 := Goto.gs HB hg; replace HB := Goto.hs HB hb; clear hb hbox hg; have hcz4_0 := Goto.bc0 BK280; have hcz4_1 := Goto.bc1 BK280; have hcz4_2 := Goto.bc2 BK280; have hcz4_3 := Goto.bc3 BK280; have hfz4_0 := Goto.bf BK280 0; have hfz4_1 := Goto.bf BK280 1; have hfz4_2 := Goto.bf BK280 2; have hfz4_3 := Goto.bf BK280 3))
 (try simp only [Act.put, List.setIfInBounds_toArray, List.set_cons_zero, List.set_cons_succ])
 go_cut [25] (fun v25 wc => ∃ (kq : Nat) (x25_1 : Bool), v25 = .bool x25_1 ∧ Aside0 (tontineref1_IsConf.j0 kq (l0_3.length : Int) x25_1 a0_0 a0_1 l0_2 l0_3 = some r) ∧ Aside0 (kq ≤ k) ∧ Aside0 (wc.heap[gb280]? = some (.cells #[.int .i64 a0_0, .int .i64 a0_1, (.slice A0_2 l0_2.length c0_2), (.slice A0_3 l0_3.length c0_3)] 25 (0, 0))) ∧ Aside0 (Below w.heap.size w wc))
 case first =>
  have H := HC2.out; clear HC2
  replace H := Option.bind_eq_some_iff.mp H
  obtain ⟨t281, A50, H⟩ := H
  have A5 := Goto.m0 A50
  clear A50
  by_cases c6 : t281 = true
  ·
   subst c6
   rw [if_pos rfl] at H
   replace H := Option.bind_eq_some_iff.mp H
   obtain ⟨t282, A70, H⟩ := H
   have A7 := Goto.m0 A70
   clear A70
   by_cases c8 : t282 = true
   ·
    subst c8
    rw [if_pos rfl] at H
    replace H := Option.bind_eq_some_iff.mp H
    obtain ⟨t283, A90, H⟩ := H
    have A9 := Goto.m0 A90
    clear A90
    have H' := Goto.m0 H
    clear H; have hcz10_0 := Goto.bc0 BK280; have hcz10_1 := Goto.bc1 BK280; have hcz10_2 := Goto.bc2 BK280; have hcz10_3 := Goto.bc3 BK280; have hfz10_0 := Goto.bf BK280 0; have hfz10_1 := Goto.bf BK280 1; have hfz10_2 := Goto.bf BK280 2; have hfz10_3 := Goto.bf BK280 3
    go_wp2_with (first | ((first | (with_reducible refine gate_callee (f := 20) rfl ?_) | (with_reducible refine Goto.gate_calleeF rfl ?_)); (first | refine goesL_ (some 13) rfl rfl Tryd.func20 (by kernel_rfl) rfl #[.int .i64 a0_0, .int .i64 1, .int .i64 64] rfl (by (try simp only [List.map_toArray, List.map_cons, List.map_nil]); first | done | rfl | (simp only [List.length_drop, List.length_take]; rfl)) ?_ | refine Goto.goesF_ (some 13) rfl rfl Tryd.func20 (by kernel_rfl) rfl #[.int .i64 a0_0, .int .i64 1, .int .i64 64] rfl (by (try simp only [List.map_toArray, List.map_cons, List.map_nil]); first | done | rfl | (simp only [List.length_drop, List.length_take]; rfl)) ?_); (with_reducible refine (tontineref1_within.calls a0_0 1 64 true _ A5.out).mono ?_); rintro e w' ⟨rfl, ⟨nd, rfl⟩⟩; refine ⟨_, rfl, ?_⟩) | (go_at_call 20; (with_reducible refine (tontineref1_within.calls a0_1 1 8 true _ A7.out).mono ?_); rintro e w' ⟨rfl, ⟨nd, rfl⟩⟩) | (go_at_call 20; (with_reducible refine (tontineref1_within.calls (l0_3.length : Int) 1 6 t283 _ A9.out).mono ?_); rintro e w' ⟨rfl, ⟨nd, rfl⟩⟩))
    go_meet
    case rel => exact ⟨_, (!t283), (by first | rfl | (simp; done) | (simp [*]; done)), H', ⟨by first | omega | exact Nat.le_refl _⟩, ⟨Goto.bx BK280⟩, ⟨Goto.hx HB⟩⟩
   ·
    replace c8 := Bool.eq_false_iff.mpr c8
    subst c8
    rw [if_neg (show ¬ (false = true) by decide)] at H
    have H' := Goto.m0 H
    clear H; have hcz11_0 := Goto.bc0 BK280; have hcz11_1 := Goto.bc1 BK280; have hcz11_2 := Goto.bc2 BK280; have hcz11_3 := Goto.bc3 BK280; have hfz11_0 := Goto.bf BK280 0; have hfz11_1 := Goto.bf BK280 1; have hfz11_2 := Goto.bf BK280 2; have hfz11_3 := Goto.bf BK280 3
    go_wp2_with (first | ((first | (with_reducible refine gate_callee (f := 20) rfl ?_) | (with_reducible refine Goto.gate_calleeF rfl ?_)); (first | refine goesL_ (some 13) rfl rfl Tryd.func20 (by kernel_rfl) rfl #[.int .i64 a0_0, .int .i64 1, .int .i64 64] rfl (by (try simp only [List.map_toArray, List.map_cons, List.map_nil]); first | done | rfl | (simp only [List.length_drop, List.length_take]; rfl)) ?_ | refine Goto.goesF_ (some 13) rfl rfl Tryd.func20 (by kernel_rfl) rfl #[.int .i64 a0_0, .int .i64 1, .int .i64 64] rfl (by (try simp only [List.map_toArray, List.map_cons, List.map_nil]); first | done | rfl | (simp only [List.length_drop, List.length_take]; rfl)) ?_); (with_reducible refine (tontineref1_within.calls a0_0 1 64 true _ A5.out).mono ?_); rintro e w' ⟨rfl, ⟨nd, rfl⟩⟩; refine ⟨_, rfl, ?_⟩) | (go_at_call 20; (with_reducible refine (tontineref1_within.calls a0_1 1 8 false _ A7.out).mono ?_); rintro e w' ⟨rfl, ⟨nd, rfl⟩⟩))
    go_meet
    case rel => exact ⟨_, (true), (by first | rfl | (simp; done) | (simp [*]; done)), H', ⟨by first | omega | exact Nat.le_refl _⟩, ⟨Goto.bx BK280⟩, ⟨Goto.hx HB⟩⟩
  ·
   replace c6 := Bool.eq_false_iff.mpr c6
   subst c6
   rw [if_neg (show ¬ (false = true) by decide)] at H
   have H' := Goto.m0 H
   clear H; have hcz12_0 := Goto.bc0 BK280; have hcz12_1 := Goto.bc1 BK280; have hcz12_2 := Goto.bc2 BK280; have hcz12_3 := Goto.bc3 BK280; have hfz12_0 := Goto.bf BK280 0; have hfz12_1 := Goto.bf BK280 1; have hfz12_2 := Goto.bf BK280 2; have hfz12_3 := Goto.bf BK280 3
   go_wp2_with (first | ((first | (with_reducible refine gate_callee (f := 20) rfl ?_) | (with_reducible refine Goto.gate_calleeF rfl ?_)); (first | refine goesL_ (some 13) rfl rfl Tryd.func20 (by kernel_rfl) rfl #[.int .i64 a0_0, .int .i64 1, .int .i64 64] rfl (by (try simp only [List.map_toArray, List.map_cons, List.map_nil]); first | done | rfl | (simp only [List.length_drop, List.length_take]; rfl)) ?_ | refine Goto.goesF_ (some 13) rfl rfl Tryd.func20 (by kernel_rfl) rfl #[.int .i64 a0_0, .int .i64 1, .int .i64 64] rfl (by (try simp only [List.map_toArray, List.map_cons, List.map_nil]); first | done | rfl | (simp only [List.length_drop, List.length_take]; rfl)) ?_); (with_reducible refine (tontineref1_within.calls a0_0 1 64 false _ A5.out).mono ?_); rintro e w' ⟨rfl, ⟨nd, rfl⟩⟩; refine ⟨_, rfl, ?_⟩))
   go_meet
   case rel => exact ⟨_, (true), (by first | rfl | (simp; done) | (simp [*]; done)), H', ⟨by first | omega | exact Nat.le_refl _⟩, ⟨Goto.bx BK280⟩, ⟨Goto.hx HB⟩⟩
 case rest =>
  clear HC2; try clear c2; try clear p2; try clear c6; try clear c8; try clear hcz10_0; try clear hcz10_1; try clear hcz10_2; try clear hcz10_3; try clear hcz11_0; try clear hcz11_1; try clear hcz11_2; try clear hcz11_3; try clear hcz12_0; try clear hcz12_1; try clear hcz12_2; try clear hcz12_3; try clear hcz4_0; try clear hcz4_1; try clear hcz4_2; try clear hcz4_3; try clear hfz10_0; try clear hfz10_1; try clear hfz10_2; try clear hfz10_3; try clear hfz11_0; try clear hfz11_1; try clear hfz11_2; try clear hfz11_3; try clear hfz12_0; try clear hfz12_1; try clear hfz12_2; try clear hfz12_3; try clear hfz4_0; try clear hfz4_1; try clear hfz4_2; try clear hfz4_3
  obtain ⟨kq, x25_1, rfl, HA, HJ1, BK280, HB⟩ := hcut
  cases kq with
  | zero => exact absurd HA.out (by simp [tontineref1_IsConf.j0])
  | succ kj1 =>
   have H := HA.out; clear HA
   simp only [tontineref1_IsConf.j0] at H
   by_cases c13 : x25_1 = true
   ·
    subst c13
    rw [if_pos rfl] at H
    obtain rfl := Option.some.inj H
    go_wp2
    go_ret
    exact ⟨Goto.er, by repeat (first | (with_reducible first | exact HB.out | apply below_alloc | apply pw_below_drewN | apply below_drew1 | refine below_set ?_ GE280.out) | exact HB.out)⟩
   ·
    replace c13 := Bool.eq_false_iff.mpr c13
    subst c13
    rw [if_neg (show ¬ (false = true) by decide)] at H
    have H' := Goto.m0 H
    clear H
    go_wp2
    go_loopg [4] kj1 (fun kq v4 w' => ∃ (x4_2 : Int), v4 = .int .i64 x4_2 ∧ Aside0 (tontineref1_IsConf.l0 kq (l0_3.length : Int) x4_2 a0_0 a0_1 l0_2 l0_3 = some r) ∧ Aside0 (kq ≤ kj1) ∧ Aside0 (w'.heap[gb280]? = some (.cells #[.int .i64 a0_0, .int .i64 a0_1, (.slice A0_2 l0_2.length c0_2), (.slice A0_3 l0_3.length c0_3)] 25 (0, 0))) ∧ Aside0 (Below w.heap.size w w'))
    case atStart => exact ⟨(0), (by first | rfl | (simp; done) | (simp [*]; done)), H', ⟨Nat.le_refl _⟩, ⟨Goto.bx BK280⟩, ⟨Goto.hx HB⟩⟩
    case round =>
     clear H'
     try clear c1; try clear c2; try clear p2; try clear c6; try clear c8; try clear c13; try clear hcz10_0; try clear hcz10_1; try clear hcz10_2; try clear hcz10_3; try clear hcz11_0; try clear hcz11_1; try clear hcz11_2; try clear hcz11_3; try clear hcz12_0; try clear hcz12_1; try clear hcz12_2; try clear hcz12_3; try clear hcz4_0; try clear hcz4_1; try clear hcz4_2; try clear hcz4_3; try clear hfz10_0; try clear hfz10_1; try clear hfz10_2; try clear hfz10_3; try clear hfz11_0; try clear hfz11_1; try clear hfz11_2; try clear hfz11_3; try clear hfz12_0; try clear hfz12_1; try clear hfz12_2; try clear hfz12_3; try clear hfz4_0; try clear hfz4_1; try clear hfz4_2; try clear hfz4_3; try clear p2
     obtain ⟨x4_2, rfl, HA, HK2, BK280, HB⟩ := hrel
     cases gk with
     | zero => exact absurd HA.out (by simp [tontineref1_IsConf.l0])
     | succ k2 =>
      have H := HA.out; clear HA
      simp only [tontineref1_IsConf.l0] at H
      by_cases c14 : x4_2 < (l0_3.length : Int)
      ·
       rw [if_pos c14] at H
       have c14b0 : decide (x4_2 < (l0_3.length : Int)) = true := decide_eq_true c14
       clear c14
       by_cases c15 : 0 ≤ x4_2
       ·
        rw [if_pos c15] at H
        have c15b0 : decide (0 ≤ x4_2) = true := decide_eq_true c15
        clear c15
        by_cases c16 : x4_2 < (l0_3.length : Int)
        ·
         rw [if_pos c16] at H
         have c16b0 : decide (x4_2 < (l0_3.length : Int)) = true := decide_eq_true c16
         clear c16
         replace H := Option.bind_eq_some_iff.mp H
         obtain ⟨t285, A170, H⟩ := H
         have A17 := Goto.m0 A170
         clear A170
         by_cases c18 : t285 = true
         ·
          subst c18
          rw [if_pos rfl] at H
          have H' := Goto.m0 H
          clear H; have hcz19_0 := Goto.bc0 BK280; have hcz19_1 := Goto.bc1 BK280; have hcz19_2 := Goto.bc2 BK280; have hcz19_3 := Goto.bc3 BK280; have hfz19_0 := Goto.bf BK280 0; have hfz19_1 := Goto.bf BK280 1; have hfz19_2 := Goto.bf BK280 2; have hfz19_3 := Goto.bf BK280 3
          have p284 : 0 ≤ (x4_2 : Int) := Goto.od
          have q284 : x4_2 < (l0_3.length : Int) := Goto.od
          obtain ⟨ad284, A284_2, c284_2, A284_3, c284_3, e284, hx284_0, hx284_1, hx284_2, hx284_3, hx284_4, hx284_5, hx284_6, hx284_7, hx284_8, hx284_9, hl284_2, hi284_2, hl284_3, hi284_3⟩ := at_T40 HR0_3.out x4_2 p284 q284
          cases e284
          replace hx284_0 := Goto.kc HB.out hx284_0
          replace hx284_1 := Goto.kc HB.out hx284_1
          replace hx284_2 := Goto.kc HB.out hx284_2
          replace hx284_3 := Goto.kc HB.out hx284_3
          replace hx284_4 := Goto.kc HB.out hx284_4
          replace hx284_5 := Goto.kc HB.out hx284_5
          replace hx284_6 := Goto.kc HB.out hx284_6
          replace hx284_7 := Goto.kc HB.out hx284_7
          replace hx284_8 := Goto.kc HB.out hx284_8
          replace hx284_9 := Goto.kc HB.out hx284_9
          have HR284_2 := Goto.m0 hi284_2
          have HC284_2 := Goto.m0 hl284_2
          clear hi284_2 hl284_2
          have HR284_3 := Goto.m0 hi284_3
          have HC284_3 := Goto.m0 hl284_3
          clear hi284_3 hl284_3; replace p284 := eq_true p284; replace q284 := eq_true q284
          go_wp2_with (first | ((first | (with_reducible refine gate_callee (f := 21) rfl ?_) | (with_reducible refine Goto.gate_calleeF rfl ?_)); (first | refine goesL_ (some 37) rfl rfl Tryd.func21 (by kernel_rfl) rfl #[.agg #[.int .i64 ((rd_T40 l0_3 x4_2).f0.f0), .int .u64 ((rd_T40 l0_3 x4_2).f0.f1)]] rfl (by (try simp only [List.map_toArray, List.map_cons, List.map_nil]); first | done | rfl | (simp only [List.length_drop, List.length_take]; rfl)) ?_ | refine Goto.goesF_ (some 37) rfl rfl Tryd.func21 (by kernel_rfl) rfl #[.agg #[.int .i64 ((rd_T40 l0_3 x4_2).f0.f0), .int .u64 ((rd_T40 l0_3 x4_2).f0.f1)]] rfl (by (try simp only [List.map_toArray, List.map_cons, List.map_nil]); first | done | rfl | (simp only [List.length_drop, List.length_take]; rfl)) ?_); (with_reducible refine (tontineref1_IsLabel.calls ((rd_T40 l0_3 x4_2).f0.f0) ((rd_T40 l0_3 x4_2).f0.f1) true _ A17.out).mono ?_); rintro e w20 ⟨rfl, hb⟩; refine ⟨_, rfl, ?_⟩; replace BK280 := Goto.bb BK280 hb; replace HB := Goto.hs HB hb; (try clear hb); (try clear hb2); (try clear hk); (try clear hi)))
          go_roundg k2
          case measure => have := HJ1.out; have := HK2.out; omega
          case rel => exact ⟨(wrap64 (x4_2 + 1)), (by first | rfl | (simp; done) | (simp [*]; done)), H', ⟨by have := HJ1.out; have := HK2.out; omega⟩, ⟨Goto.bx BK280⟩, ⟨Goto.hx HB⟩⟩
         ·
          replace c18 := Bool.eq_false_iff.mpr c18
          subst c18
          rw [if_neg (show ¬ (false = true) by decide)] at H
          obtain rfl := Option.some.inj H
          have hcz21_0 := Goto.bc0 BK280; have hcz21_1 := Goto.bc1 BK280; have hcz21_2 := Goto.bc2 BK280; have hcz21_3 := Goto.bc3 BK280; have hfz21_0 := Goto.bf BK280 0; have hfz21_1 := Goto.bf BK280 1; have hfz21_2 := Goto.bf BK280 2; have hfz21_3 := Goto.bf BK280 3
          have p284 : 0 ≤ (x4_2 : Int) := Goto.od
          have q284 : x4_2 < (l0_3.length : Int) := Goto.od
          obtain ⟨ad284, A284_2, c284_2, A284_3, c284_3, e284, hx284_0, hx284_1, hx284_2, hx284_3, hx284_4, hx284_5, hx284_6, hx284_7, hx284_8, hx284_9, hl284_2, hi284_2, hl284_3, hi284_3⟩ := at_T40 HR0_3.out x4_2 p284 q284
          cases e284
          replace hx284_0 := Goto.kc HB.out hx284_0
          replace hx284_1 := Goto.kc HB.out hx284_1
          replace hx284_2 := Goto.kc HB.out hx284_2
          replace hx284_3 := Goto.kc HB.out hx284_3
          replace hx284_4 := Goto.kc HB.out hx284_4
          replace hx284_5 := Goto.kc HB.out hx284_5
          replace hx284_6 := Goto.kc HB.out hx284_6
          replace hx284_7 := Goto.kc HB.out hx284_7
          replace hx284_8 := Goto.kc HB.out hx284_8
          replace hx284_9 := Goto.kc HB.out hx284_9
          have HR284_2 := Goto.m0 hi284_2
          have HC284_2 := Goto.m0 hl284_2
          clear hi284_2 hl284_2
          have HR284_3 := Goto.m0 hi284_3
          have HC284_3 := Goto.m0 hl284_3
          clear hi284_3 hl284_3; replace p284 := eq_true p284; replace q284 := eq_true q284
          go_wp2_with (first | ((first | (with_reducible refine gate_callee (f := 21) rfl ?_) | (with_reducible refine Goto.gate_calleeF rfl ?_)); (first | refine goesL_ (some 37) rfl rfl Tryd.func21 (by kernel_rfl) rfl #[.agg #[.int .i64 ((rd_T40 l0_3 x4_2).f0.f0), .int .u64 ((rd_T40 l0_3 x4_2).f0.f1)]] rfl (by (try simp only [List.map_toArray, List.map_cons, List.map_nil]); first | done | rfl | (simp only [List.length_drop, List.length_take]; rfl)) ?_ | refine Goto.goesF_ (some 37) rfl rfl Tryd.func21 (by kernel_rfl) rfl #[.agg #[.int .i64 ((rd_T40 l0_3 x4_2).f0.f0), .int .u64 ((rd_T40 l0_3 x4_2).f0.f1)]] rfl (by (try simp only [List.map_toArray, List.map_cons, List.map_nil]); first | done | rfl | (simp only [List.length_drop, List.length_take]; rfl)) ?_); (with_reducible refine (tontineref1_IsLabel.calls ((rd_T40 l0_3 x4_2).f0.f0) ((rd_T40 l0_3 x4_2).f0.f1) false _ A17.out).mono ?_); rintro e w22 ⟨rfl, hb⟩; refine ⟨_, rfl, ?_⟩; replace BK280 := Goto.bb BK280 hb; replace HB := Goto.hs HB hb; (try clear hb); (try clear hb2); (try clear hk); (try clear hi)))
          go_ret
          exact ⟨Goto.er, by repeat (first | (with_reducible first | exact HB.out | apply below_alloc | apply pw_below_drewN | apply below_drew1 | refine below_set ?_ GE280.out) | exact HB.out)⟩
        ·
         rw [if_neg c16] at H
         exact absurd H (by simp)
       ·
        rw [if_neg c15] at H
        exact absurd H (by simp)
      ·
       rw [if_neg c14] at H
       have c14b0 : decide (x4_2 < (l0_3.length : Int)) = false := decide_eq_false c14
       clear c14
       replace H := Option.bind_eq_some_iff.mp H
       obtain ⟨t286, A230, H⟩ := H
       have A23 := Goto.m0 A230
       clear A230
       by_cases c24 : t286 = true
       ·
        subst c24
        rw [if_pos rfl] at H
        have H' := Goto.m0 H
        clear H; have hcz25_0 := Goto.bc0 BK280; have hcz25_1 := Goto.bc1 BK280; have hcz25_2 := Goto.bc2 BK280; have hcz25_3 := Goto.bc3 BK280; have hfz25_0 := Goto.bf BK280 0; have hfz25_1 := Goto.bf BK280 1; have hfz25_2 := Goto.bf BK280 2; have hfz25_3 := Goto.bf BK280 3
        go_wp2_with (first | ((first | (with_reducible refine gate_callee (f := 22) rfl ?_) | (with_reducible refine Goto.gate_calleeF rfl ?_)); (first | refine goesL_ (some 40) rfl rfl Tryd.func22 (by kernel_rfl) rfl #[.agg #[.int .i64 a0_0, .int .i64 a0_1, .slice A0_2 l0_2.length c0_2, .slice A0_3 l0_3.length c0_3]] rfl (by (try simp only [List.map_toArray, List.map_cons, List.map_nil]); first | done | rfl | (simp only [List.length_drop, List.length_take]; rfl)) ?_ | refine Goto.goesF_ (some 40) rfl rfl Tryd.func22 (by kernel_rfl) rfl #[.agg #[.int .i64 a0_0, .int .i64 a0_1, .slice A0_2 l0_2.length c0_2, .slice A0_3 l0_3.length c0_3]] rfl (by (try simp only [List.map_toArray, List.map_cons, List.map_nil]); first | done | rfl | (simp only [List.length_drop, List.length_take]; rfl)) ?_); (with_reducible refine (tontineref1_shares.calls k2 a0_0 a0_1 _ _ l0_2 _ _ l0_3 true _ ?side1 ?side2 ?side3 ?side4 A23.out).mono ?_); (case side1 => repeat (first | exact (Kd.C_below HR0_2.out HB.out) | (with_reducible refine Kd.C_alloc ?_ _) | (with_reducible refine Kd.C_drewN ?_ _) | (with_reducible refine Kd.C_drew ?_))); (case side2 => exact HC0_2.out); (case side3 => repeat (first | exact (Kd.C_below HR0_3.out HB.out) | (with_reducible refine Kd.C_alloc ?_ _) | (with_reducible refine Kd.C_drewN ?_ _) | (with_reducible refine Kd.C_drew ?_))); (case side4 => exact HC0_3.out); rintro e w26 ⟨rfl, hb⟩; refine ⟨_, rfl, ?_⟩; replace BK280 := Goto.bb BK280 hb; replace HB := Goto.hs HB hb; (try clear hb); (try clear hb2); (try clear hk); (try clear hi)))
        go_loopg [5] k2 (fun kq v5 w' => ∃ (x5_3 : Int), v5 = .int .i64 x5_3 ∧ Aside0 (tontineref1_IsConf.l1 kq (l0_3.length : Int) x5_3 a0_0 a0_1 l0_2 l0_3 = some r) ∧ Aside0 (kq ≤ k2) ∧ Aside0 (w'.heap[gb280]? = some (.cells #[.int .i64 a0_0, .int .i64 a0_1, (.slice A0_2 l0_2.length c0_2), (.slice A0_3 l0_3.length c0_3)] 25 (0, 0))) ∧ Aside0 (Below w.heap.size w w'))
        case atStart => exact ⟨(0), (by first | rfl | (simp; done) | (simp [*]; done)), H', ⟨Nat.le_refl _⟩, ⟨Goto.bx BK280⟩, ⟨Goto.hx HB⟩⟩
        case round =>
         clear H'
         try clear c1; try clear c2; try clear p2; try clear q2; try clear hx2; try clear c6; try clear p6; try clear c8; try clear c13; try clear c14; try clear c14b0; try clear c15; try clear c15b0; try clear c16; try clear c16b0; try clear c18; try clear c20; try clear c21; try clear c22; try clear c24; try clear hcz10_0; try clear hcz10_1; try clear hcz10_2; try clear hcz10_3; try clear hcz11_0; try clear hcz11_1; try clear hcz11_2; try clear hcz11_3; try clear hcz12_0; try clear hcz12_1; try clear hcz12_2; try clear hcz12_3; try clear hcz19_0; try clear hcz19_1; try clear hcz19_2; try clear hcz19_3; try clear hcz21_0; try clear hcz21_1; try clear hcz21_2; try clear hcz21_3; try clear hcz25_0; try clear hcz25_1; try clear hcz25_2; try clear hcz25_3; try clear hcz4_0; try clear hcz4_1; try clear hcz4_2; try clear hcz4_3; try clear hfz10_0; try clear hfz10_1; try clear hfz10_2; try clear hfz10_3; try clear hfz11_0; try clear hfz11_1; try clear hfz11_2; try clear hfz11_3; try clear hfz12_0; try clear hfz12_1; try clear hfz12_2; try clear hfz12_3; try clear hfz19_0; try clear hfz19_1; try clear hfz19_2; try clear hfz19_3; try clear hfz21_0; try clear hfz21_1; try clear hfz21_2; try clear hfz21_3; try clear hfz25_0; try clear hfz25_1; try clear hfz25_2; try clear hfz25_3; try clear hfz4_0; try clear hfz4_1; try clear hfz4_2; try clear hfz4_3; try clear hx284_0; try clear hx284_1; try clear hx284_2; try clear hx284_3; try clear hx284_4; try clear hx284_5; try clear hx284_6; try clear hx284_7; try clear hx284_8; try clear hx284_9; try clear p2; try clear p284; try clear q284
         obtain ⟨x5_3, rfl, HA, HK3, BK280, HB⟩ := hrel
         cases gk with
         | zero => exact absurd HA.out (by simp [tontineref1_IsConf.l1])
         | succ k3 =>
          have H := HA.out; clear HA
          simp only [tontineref1_IsConf.l1] at H
          by_cases c27 : x5_3 < (l0_3.length : Int)
          ·
           rw [if_pos c27] at H
           have c27b0 : decide (x5_3 < (l0_3.length : Int)) = true := decide_eq_true c27
           clear c27
           by_cases c28 : 0 ≤ x5_3
           ·
            rw [if_pos c28] at H
            have c28b0 : decide (0 ≤ x5_3) = true := decide_eq_true c28
            clear c28
            by_cases c29 : x5_3 < (l0_3.length : Int)
            ·
             rw [if_pos c29] at H
             have c29b0 : decide (x5_3 < (l0_3.length : Int)) = true := decide_eq_true c29
             clear c29
             replace H := Option.bind_eq_some_iff.mp H
             obtain ⟨t289, A300, H⟩ := H
             have A30 := Goto.m0 A300
             clear A300
             by_cases c31 : t289 = true
             ·
              subst c31
              rw [if_pos rfl] at H
              replace H := Option.bind_eq_some_iff.mp H
              obtain ⟨t290, A320, H⟩ := H
              have A32 := Goto.m0 A320
              clear A320
              by_cases c33 : t290 = true
              ·
               subst c33
               rw [if_pos rfl] at H
               replace H := Option.bind_eq_some_iff.mp H
               obtain ⟨t291, A340, H⟩ := H
               have A34 := Goto.m0 A340
               clear A340
               by_cases c35 : t291 = true
               ·
                subst c35
                rw [if_pos rfl] at H
                replace H := Option.bind_eq_some_iff.mp H
                obtain ⟨t292, A360, H⟩ := H
                have A36 := Goto.m0 A360
                clear A360
                by_cases c37 : t292 = true
                ·
                 subst c37
                 rw [if_pos rfl] at H
                 replace H := Option.bind_eq_some_iff.mp H
                 obtain ⟨t293, A380, H⟩ := H
                 have A38 := Goto.m0 A380
                 clear A380
                 by_cases c39 : t293 = true
                 ·
                  subst c39
                  rw [if_pos rfl] at H
                  have H' := Goto.m0 H
                  clear H; have hcz40_0 := Goto.bc0 BK280; have hcz40_1 := Goto.bc1 BK280; have hcz40_2 := Goto.bc2 BK280; have hcz40_3 := Goto.bc3 BK280; have hfz40_0 := Goto.bf BK280 0; have hfz40_1 := Goto.bf BK280 1; have hfz40_2 := Goto.bf BK280 2; have hfz40_3 := Goto.bf BK280 3
                  have p287 : 0 ≤ (x5_3 : Int) := Goto.od
                  have q287 : x5_3 < (l0_3.length : Int) := Goto.od
                  obtain ⟨ad287, A287_2, c287_2, A287_3, c287_3, e287, hx287_0, hx287_1, hx287_2, hx287_3, hx287_4, hx287_5, hx287_6, hx287_7, hx287_8, hx287_9, hl287_2, hi287_2, hl287_3, hi287_3⟩ := at_T40 HR0_3.out x5_3 p287 q287
                  cases e287
                  replace hx287_0 := Goto.kc HB.out hx287_0
                  replace hx287_1 := Goto.kc HB.out hx287_1
                  replace hx287_2 := Goto.kc HB.out hx287_2
                  replace hx287_3 := Goto.kc HB.out hx287_3
                  replace hx287_4 := Goto.kc HB.out hx287_4
                  replace hx287_5 := Goto.kc HB.out hx287_5
                  replace hx287_6 := Goto.kc HB.out hx287_6
                  replace hx287_7 := Goto.kc HB.out hx287_7
                  replace hx287_8 := Goto.kc HB.out hx287_8
                  replace hx287_9 := Goto.kc HB.out hx287_9
                  have HR287_2 := Goto.m0 hi287_2
                  have HC287_2 := Goto.m0 hl287_2
                  clear hi287_2 hl287_2
                  have HR287_3 := Goto.m0 hi287_3
                  have HC287_3 := Goto.m0 hl287_3
                  clear hi287_3 hl287_3; replace p287 := eq_true p287; replace q287 := eq_true q287
                  go_wp2_with (first | ((with_reducible refine gate_dst (N := 6) rfl ?_); refine box_event ?hg (N := 6) ?hd (cs := #[.int .i64 0, .int .u64 0, .slice none 0 0, .slice none 0 0, .int .i64 0, .int .i64 0, .int .i64 0, .int .i64 0, .int .i64 0, .int .i64 0]) (t := 40) ?hr ?_; (case hd => rfl); (case hg => rfl); (case hr => first | (go_simp; done) | (go_simp; rfl)); intro gb288 hg w41 hbox hb; have BK288 := Goto.m0 (hbox); have GW288 := Goto.gs HB hg; have GE288 := Goto.gs HB hg; have NB280_288 := Goto.nl BK280 hg; have NB288_280 := Goto.nr BK280 hg; replace BK280 := Goto.bb BK280 hb; replace HB := Goto.hs HB hb; clear hb hbox hg; have hnb42 := NB288_280.out; have hnc42 := NB280_288.out; have hcz43_0 := Goto.bc0 BK288; have hcz43_1 := Goto.bc1 BK288; have hcz43_2 := Goto.bc2 BK288; have hcz43_3 := Goto.bc3 BK288; have hcz43_4 := Goto.bc4 BK288; have hcz43_5 := Goto.bc5 BK288; have hcz43_6 := Goto.bc6 BK288; have hcz43_7 := Goto.bc7 BK288; have hcz43_8 := Goto.bc8 BK288; have hcz43_9 := Goto.bc9 BK288; have hfz43_0 := Goto.bf BK288 0; have hfz43_1 := Goto.bf BK288 1; have hfz43_2 := Goto.bf BK288 2; have hfz43_3 := Goto.bf BK288 3; have hfz43_4 := Goto.bf BK288 4; have hfz43_5 := Goto.bf BK288 5; have hfz43_6 := Goto.bf BK288 6; have hfz43_7 := Goto.bf BK288 7; have hfz43_8 := Goto.bf BK288 8; have hfz43_9 := Goto.bf BK288 9) | ((first | (with_reducible refine gate_callee (f := 20) rfl ?_) | (with_reducible refine Goto.gate_calleeF rfl ?_)); (first | refine goesL_ (some 54) rfl rfl Tryd.func20 (by kernel_rfl) rfl #[.int .i64 ((rd_T40 l0_3 x5_3).f4), .int .i64 1, .int .i64 8] rfl (by (try simp only [List.map_toArray, List.map_cons, List.map_nil]); first | done | rfl | (simp only [List.length_drop, List.length_take]; rfl)) ?_ | refine Goto.goesF_ (some 54) rfl rfl Tryd.func20 (by kernel_rfl) rfl #[.int .i64 ((rd_T40 l0_3 x5_3).f4), .int .i64 1, .int .i64 8] rfl (by (try simp only [List.map_toArray, List.map_cons, List.map_nil]); first | done | rfl | (simp only [List.length_drop, List.length_take]; rfl)) ?_); (with_reducible refine (tontineref1_within.calls ((rd_T40 l0_3 x5_3).f4) 1 8 true _ A30.out).mono ?_); rintro e w' ⟨rfl, ⟨nd, rfl⟩⟩; refine ⟨_, rfl, ?_⟩) | (go_at_call 20; (with_reducible refine (tontineref1_within.calls ((rd_T40 l0_3 x5_3).f5) 0 4 true _ A32.out).mono ?_); rintro e w' ⟨rfl, ⟨nd, rfl⟩⟩) | (go_at_call 20; (with_reducible refine (tontineref1_within.calls ((rd_T40 l0_3 x5_3).f6) 1 16 true _ A34.out).mono ?_); rintro e w' ⟨rfl, ⟨nd, rfl⟩⟩) | (go_at_call 20; (with_reducible refine (tontineref1_within.calls ((rd_T40 l0_3 x5_3).f7) 0 8 true _ A36.out).mono ?_); rintro e w' ⟨rfl, ⟨nd, rfl⟩⟩) | (go_at_call 20; (with_reducible refine (tontineref1_within.calls ((rd_T40 l0_3 x5_3).f8) 1 8 true _ A38.out).mono ?_); rintro e w' ⟨rfl, ⟨nd, rfl⟩⟩))
                  go_roundg k3
                  case measure => have := HJ1.out; have := HK2.out; have := HK3.out; omega
                  case rel => exact ⟨(wrap64 (x5_3 + 1)), (by first | rfl | (simp; done) | (simp [*]; done)), H', ⟨by have := HJ1.out; have := HK2.out; have := HK3.out; omega⟩, ⟨Goto.bx BK280⟩, ⟨Goto.hx HB⟩⟩
                 ·
                  replace c39 := Bool.eq_false_iff.mpr c39
                  subst c39
                  rw [if_neg (show ¬ (false = true) by decide)] at H
                  obtain rfl := Option.some.inj H
                  have hcz44_0 := Goto.bc0 BK280; have hcz44_1 := Goto.bc1 BK280; have hcz44_2 := Goto.bc2 BK280; have hcz44_3 := Goto.bc3 BK280; have hfz44_0 := Goto.bf BK280 0; have hfz44_1 := Goto.bf BK280 1; have hfz44_2 := Goto.bf BK280 2; have hfz44_3 := Goto.bf BK280 3
                  have p287 : 0 ≤ (x5_3 : Int) := Goto.od
                  have q287 : x5_3 < (l0_3.length : Int) := Goto.od
                  obtain ⟨ad287, A287_2, c287_2, A287_3, c287_3, e287, hx287_0, hx287_1, hx287_2, hx287_3, hx287_4, hx287_5, hx287_6, hx287_7, hx287_8, hx287_9, hl287_2, hi287_2, hl287_3, hi287_3⟩ := at_T40 HR0_3.out x5_3 p287 q287
                  cases e287
                  replace hx287_0 := Goto.kc HB.out hx287_0
                  replace hx287_1 := Goto.kc HB.out hx287_1
                  replace hx287_2 := Goto.kc HB.out hx287_2
                  replace hx287_3 := Goto.kc HB.out hx287_3
                  replace hx287_4 := Goto.kc HB.out hx287_4
                  replace hx287_5 := Goto.kc HB.out hx287_5
                  replace hx287_6 := Goto.kc HB.out hx287_6
                  replace hx287_7 := Goto.kc HB.out hx287_7
                  replace hx287_8 := Goto.kc HB.out hx287_8
                  replace hx287_9 := Goto.kc HB.out hx287_9
                  have HR287_2 := Goto.m0 hi287_2
                  have HC287_2 := Goto.m0 hl287_2
                  clear hi287_2 hl287_2
                  have HR287_3 := Goto.m0 hi287_3
                  have HC287_3 := Goto.m0 hl287_3
                  clear hi287_3 hl287_3; replace p287 := eq_true p287; replace q287 := eq_true q287
                  go_wp2_with (first | ((with_reducible refine gate_dst (N := 6) rfl ?_); refine box_event ?hg (N := 6) ?hd (cs := #[.int .i64 0, .int .u64 0, .slice none 0 0, .slice none 0 0, .int .i64 0, .int .i64 0, .int .i64 0, .int .i64 0, .int .i64 0, .int .i64 0]) (t := 40) ?hr ?_; (case hd => rfl); (case hg => rfl); (case hr => first | (go_simp; done) | (go_simp; rfl)); intro gb288 hg w45 hbox hb; have BK288 := Goto.m0 (hbox); have GW288 := Goto.gs HB hg; have GE288 := Goto.gs HB hg; have NB280_288 := Goto.nl BK280 hg; have NB288_280 := Goto.nr BK280 hg; replace BK280 := Goto.bb BK280 hb; replace HB := Goto.hs HB hb; clear hb hbox hg; have hnb46 := NB288_280.out; have hnc46 := NB280_288.out; have hcz47_0 := Goto.bc0 BK288; have hcz47_1 := Goto.bc1 BK288; have hcz47_2 := Goto.bc2 BK288; have hcz47_3 := Goto.bc3 BK288; have hcz47_4 := Goto.bc4 BK288; have hcz47_5 := Goto.bc5 BK288; have hcz47_6 := Goto.bc6 BK288; have hcz47_7 := Goto.bc7 BK288; have hcz47_8 := Goto.bc8 BK288; have hcz47_9 := Goto.bc9 BK288; have hfz47_0 := Goto.bf BK288 0; have hfz47_1 := Goto.bf BK288 1; have hfz47_2 := Goto.bf BK288 2; have hfz47_3 := Goto.bf BK288 3; have hfz47_4 := Goto.bf BK288 4; have hfz47_5 := Goto.bf BK288 5; have hfz47_6 := Goto.bf BK288 6; have hfz47_7 := Goto.bf BK288 7; have hfz47_8 := Goto.bf BK288 8; have hfz47_9 := Goto.bf BK288 9) | ((first | (with_reducible refine gate_callee (f := 20) rfl ?_) | (with_reducible refine Goto.gate_calleeF rfl ?_)); (first | refine goesL_ (some 54) rfl rfl Tryd.func20 (by kernel_rfl) rfl #[.int .i64 ((rd_T40 l0_3 x5_3).f4), .int .i64 1, .int .i64 8] rfl (by (try simp only [List.map_toArray, List.map_cons, List.map_nil]); first | done | rfl | (simp only [List.length_drop, List.length_take]; rfl)) ?_ | refine Goto.goesF_ (some 54) rfl rfl Tryd.func20 (by kernel_rfl) rfl #[.int .i64 ((rd_T40 l0_3 x5_3).f4), .int .i64 1, .int .i64 8] rfl (by (try simp only [List.map_toArray, List.map_cons, List.map_nil]); first | done | rfl | (simp only [List.length_drop, List.length_take]; rfl)) ?_); (with_reducible refine (tontineref1_within.calls ((rd_T40 l0_3 x5_3).f4) 1 8 true _ A30.out).mono ?_); rintro e w' ⟨rfl, ⟨nd, rfl⟩⟩; refine ⟨_, rfl, ?_⟩) | (go_at_call 20; (with_reducible refine (tontineref1_within.calls ((rd_T40 l0_3 x5_3).f5) 0 4 true _ A32.out).mono ?_); rintro e w' ⟨rfl, ⟨nd, rfl⟩⟩) | (go_at_call 20; (with_reducible refine (tontineref1_within.calls ((rd_T40 l0_3 x5_3).f6) 1 16 true _ A34.out).mono ?_); rintro e w' ⟨rfl, ⟨nd, rfl⟩⟩) | (go_at_call 20; (with_reducible refine (tontineref1_within.calls ((rd_T40 l0_3 x5_3).f7) 0 8 true _ A36.out).mono ?_); rintro e w' ⟨rfl, ⟨nd, rfl⟩⟩) | (go_at_call 20; (with_reducible refine (tontineref1_within.calls ((rd_T40 l0_3 x5_3).f8) 1 8 false _ A38.out).mono ?_); rintro e w' ⟨rfl, ⟨nd, rfl⟩⟩))
                  go_ret
                  exact ⟨Goto.er, by repeat (first | (with_reducible first | exact HB.out | apply below_alloc | apply pw_below_drewN | apply below_drew1 | refine below_set ?_ GE280.out | refine below_set ?_ GE288.out) | exact HB.out)⟩
                ·
                 replace c37 := Bool.eq_false_iff.mpr c37
                 subst c37
                 rw [if_neg (show ¬ (false = true) by decide)] at H
                 obtain rfl := Option.some.inj H
                 have hcz48_0 := Goto.bc0 BK280; have hcz48_1 := Goto.bc1 BK280; have hcz48_2 := Goto.bc2 BK280; have hcz48_3 := Goto.bc3 BK280; have hfz48_0 := Goto.bf BK280 0; have hfz48_1 := Goto.bf BK280 1; have hfz48_2 := Goto.bf BK280 2; have hfz48_3 := Goto.bf BK280 3
                 have p287 : 0 ≤ (x5_3 : Int) := Goto.od
                 have q287 : x5_3 < (l0_3.length : Int) := Goto.od
                 obtain ⟨ad287, A287_2, c287_2, A287_3, c287_3, e287, hx287_0, hx287_1, hx287_2, hx287_3, hx287_4, hx287_5, hx287_6, hx287_7, hx287_8, hx287_9, hl287_2, hi287_2, hl287_3, hi287_3⟩ := at_T40 HR0_3.out x5_3 p287 q287
                 cases e287
                 replace hx287_0 := Goto.kc HB.out hx287_0
                 replace hx287_1 := Goto.kc HB.out hx287_1
                 replace hx287_2 := Goto.kc HB.out hx287_2
                 replace hx287_3 := Goto.kc HB.out hx287_3
                 replace hx287_4 := Goto.kc HB.out hx287_4
                 replace hx287_5 := Goto.kc HB.out hx287_5
                 replace hx287_6 := Goto.kc HB.out hx287_6
                 replace hx287_7 := Goto.kc HB.out hx287_7
                 replace hx287_8 := Goto.kc HB.out hx287_8
                 replace hx287_9 := Goto.kc HB.out hx287_9
                 have HR287_2 := Goto.m0 hi287_2
                 have HC287_2 := Goto.m0 hl287_2
                 clear hi287_2 hl287_2
                 have HR287_3 := Goto.m0 hi287_3
                 have HC287_3 := Goto.m0 hl287_3
                 clear hi287_3 hl287_3; replace p287 := eq_true p287; replace q287 := eq_true q287
                 go_wp2_with (first | ((with_reducible refine gate_dst (N := 6) rfl ?_); refine box_event ?hg (N := 6) ?hd (cs := #[.int .i64 0, .int .u64 0, .slice none 0 0, .slice none 0 0, .int .i64 0, .int .i64 0, .int .i64 0, .int .i64 0, .int .i64 0, .int .i64 0]) (t := 40) ?hr ?_; (case hd => rfl); (case hg => rfl); (case hr => first | (go_simp; done) | (go_simp; rfl)); intro gb288 hg w49 hbox hb; have BK288 := Goto.m0 (hbox); have GW288 := Goto.gs HB hg; have GE288 := Goto.gs HB hg; have NB280_288 := Goto.nl BK280 hg; have NB288_280 := Goto.nr BK280 hg; replace BK280 := Goto.bb BK280 hb; replace HB := Goto.hs HB hb; clear hb hbox hg; have hnb50 := NB288_280.out; have hnc50 := NB280_288.out; have hcz51_0 := Goto.bc0 BK288; have hcz51_1 := Goto.bc1 BK288; have hcz51_2 := Goto.bc2 BK288; have hcz51_3 := Goto.bc3 BK288; have hcz51_4 := Goto.bc4 BK288; have hcz51_5 := Goto.bc5 BK288; have hcz51_6 := Goto.bc6 BK288; have hcz51_7 := Goto.bc7 BK288; have hcz51_8 := Goto.bc8 BK288; have hcz51_9 := Goto.bc9 BK288; have hfz51_0 := Goto.bf BK288 0; have hfz51_1 := Goto.bf BK288 1; have hfz51_2 := Goto.bf BK288 2; have hfz51_3 := Goto.bf BK288 3; have hfz51_4 := Goto.bf BK288 4; have hfz51_5 := Goto.bf BK288 5; have hfz51_6 := Goto.bf BK288 6; have hfz51_7 := Goto.bf BK288 7; have hfz51_8 := Goto.bf BK288 8; have hfz51_9 := Goto.bf BK288 9) | ((first | (with_reducible refine gate_callee (f := 20) rfl ?_) | (with_reducible refine Goto.gate_calleeF rfl ?_)); (first | refine goesL_ (some 54) rfl rfl Tryd.func20 (by kernel_rfl) rfl #[.int .i64 ((rd_T40 l0_3 x5_3).f4), .int .i64 1, .int .i64 8] rfl (by (try simp only [List.map_toArray, List.map_cons, List.map_nil]); first | done | rfl | (simp only [List.length_drop, List.length_take]; rfl)) ?_ | refine Goto.goesF_ (some 54) rfl rfl Tryd.func20 (by kernel_rfl) rfl #[.int .i64 ((rd_T40 l0_3 x5_3).f4), .int .i64 1, .int .i64 8] rfl (by (try simp only [List.map_toArray, List.map_cons, List.map_nil]); first | done | rfl | (simp only [List.length_drop, List.length_take]; rfl)) ?_); (with_reducible refine (tontineref1_within.calls ((rd_T40 l0_3 x5_3).f4) 1 8 true _ A30.out).mono ?_); rintro e w' ⟨rfl, ⟨nd, rfl⟩⟩; refine ⟨_, rfl, ?_⟩) | (go_at_call 20; (with_reducible refine (tontineref1_within.calls ((rd_T40 l0_3 x5_3).f5) 0 4 true _ A32.out).mono ?_); rintro e w' ⟨rfl, ⟨nd, rfl⟩⟩) | (go_at_call 20; (with_reducible refine (tontineref1_within.calls ((rd_T40 l0_3 x5_3).f6) 1 16 true _ A34.out).mono ?_); rintro e w' ⟨rfl, ⟨nd, rfl⟩⟩) | (go_at_call 20; (with_reducible refine (tontineref1_within.calls ((rd_T40 l0_3 x5_3).f7) 0 8 false _ A36.out).mono ?_); rintro e w' ⟨rfl, ⟨nd, rfl⟩⟩))
                 go_ret
                 exact ⟨Goto.er, by repeat (first | (with_reducible first | exact HB.out | apply below_alloc | apply pw_below_drewN | apply below_drew1 | refine below_set ?_ GE280.out | refine below_set ?_ GE288.out) | exact HB.out)⟩
               ·
                replace c35 := Bool.eq_false_iff.mpr c35
                subst c35
                rw [if_neg (show ¬ (false = true) by decide)] at H
                obtain rfl := Option.some.inj H
                have hcz52_0 := Goto.bc0 BK280; have hcz52_1 := Goto.bc1 BK280; have hcz52_2 := Goto.bc2 BK280; have hcz52_3 := Goto.bc3 BK280; have hfz52_0 := Goto.bf BK280 0; have hfz52_1 := Goto.bf BK280 1; have hfz52_2 := Goto.bf BK280 2; have hfz52_3 := Goto.bf BK280 3
                have p287 : 0 ≤ (x5_3 : Int) := Goto.od
                have q287 : x5_3 < (l0_3.length : Int) := Goto.od
                obtain ⟨ad287, A287_2, c287_2, A287_3, c287_3, e287, hx287_0, hx287_1, hx287_2, hx287_3, hx287_4, hx287_5, hx287_6, hx287_7, hx287_8, hx287_9, hl287_2, hi287_2, hl287_3, hi287_3⟩ := at_T40 HR0_3.out x5_3 p287 q287
                cases e287
                replace hx287_0 := Goto.kc HB.out hx287_0
                replace hx287_1 := Goto.kc HB.out hx287_1
                replace hx287_2 := Goto.kc HB.out hx287_2
                replace hx287_3 := Goto.kc HB.out hx287_3
                replace hx287_4 := Goto.kc HB.out hx287_4
                replace hx287_5 := Goto.kc HB.out hx287_5
                replace hx287_6 := Goto.kc HB.out hx287_6
                replace hx287_7 := Goto.kc HB.out hx287_7
                replace hx287_8 := Goto.kc HB.out hx287_8
                replace hx287_9 := Goto.kc HB.out hx287_9
                have HR287_2 := Goto.m0 hi287_2
                have HC287_2 := Goto.m0 hl287_2
                clear hi287_2 hl287_2
                have HR287_3 := Goto.m0 hi287_3
                have HC287_3 := Goto.m0 hl287_3
                clear hi287_3 hl287_3; replace p287 := eq_true p287; replace q287 := eq_true q287
                go_wp2_with (first | ((with_reducible refine gate_dst (N := 6) rfl ?_); refine box_event ?hg (N := 6) ?hd (cs := #[.int .i64 0, .int .u64 0, .slice none 0 0, .slice none 0 0, .int .i64 0, .int .i64 0, .int .i64 0, .int .i64 0, .int .i64 0, .int .i64 0]) (t := 40) ?hr ?_; (case hd => rfl); (case hg => rfl); (case hr => first | (go_simp; done) | (go_simp; rfl)); intro gb288 hg w53 hbox hb; have BK288 := Goto.m0 (hbox); have GW288 := Goto.gs HB hg; have GE288 := Goto.gs HB hg; have NB280_288 := Goto.nl BK280 hg; have NB288_280 := Goto.nr BK280 hg; replace BK280 := Goto.bb BK280 hb; replace HB := Goto.hs HB hb; clear hb hbox hg; have hnb54 := NB288_280.out; have hnc54 := NB280_288.out; have hcz55_0 := Goto.bc0 BK288; have hcz55_1 := Goto.bc1 BK288; have hcz55_2 := Goto.bc2 BK288; have hcz55_3 := Goto.bc3 BK288; have hcz55_4 := Goto.bc4 BK288; have hcz55_5 := Goto.bc5 BK288; have hcz55_6 := Goto.bc6 BK288; have hcz55_7 := Goto.bc7 BK288; have hcz55_8 := Goto.bc8 BK288; have hcz55_9 := Goto.bc9 BK288; have hfz55_0 := Goto.bf BK288 0; have hfz55_1 := Goto.bf BK288 1; have hfz55_2 := Goto.bf BK288 2; have hfz55_3 := Goto.bf BK288 3; have hfz55_4 := Goto.bf BK288 4; have hfz55_5 := Goto.bf BK288 5; have hfz55_6 := Goto.bf BK288 6; have hfz55_7 := Goto.bf BK288 7; have hfz55_8 := Goto.bf BK288 8; have hfz55_9 := Goto.bf BK288 9) | ((first | (with_reducible refine gate_callee (f := 20) rfl ?_) | (with_reducible refine Goto.gate_calleeF rfl ?_)); (first | refine goesL_ (some 54) rfl rfl Tryd.func20 (by kernel_rfl) rfl #[.int .i64 ((rd_T40 l0_3 x5_3).f4), .int .i64 1, .int .i64 8] rfl (by (try simp only [List.map_toArray, List.map_cons, List.map_nil]); first | done | rfl | (simp only [List.length_drop, List.length_take]; rfl)) ?_ | refine Goto.goesF_ (some 54) rfl rfl Tryd.func20 (by kernel_rfl) rfl #[.int .i64 ((rd_T40 l0_3 x5_3).f4), .int .i64 1, .int .i64 8] rfl (by (try simp only [List.map_toArray, List.map_cons, List.map_nil]); first | done | rfl | (simp only [List.length_drop, List.length_take]; rfl)) ?_); (with_reducible refine (tontineref1_within.calls ((rd_T40 l0_3 x5_3).f4) 1 8 true _ A30.out).mono ?_); rintro e w' ⟨rfl, ⟨nd, rfl⟩⟩; refine ⟨_, rfl, ?_⟩) | (go_at_call 20; (with_reducible refine (tontineref1_within.calls ((rd_T40 l0_3 x5_3).f5) 0 4 true _ A32.out).mono ?_); rintro e w' ⟨rfl, ⟨nd, rfl⟩⟩) | (go_at_call 20; (with_reducible refine (tontineref1_within.calls ((rd_T40 l0_3 x5_3).f6) 1 16 false _ A34.out).mono ?_); rintro e w' ⟨rfl, ⟨nd, rfl⟩⟩))
                go_ret
                exact ⟨Goto.er, by repeat (first | (with_reducible first | exact HB.out | apply below_alloc | apply pw_below_drewN | apply below_drew1 | refine below_set ?_ GE280.out | refine below_set ?_ GE288.out) | exact HB.out)⟩
              ·
               replace c33 := Bool.eq_false_iff.mpr c33
               subst c33
               rw [if_neg (show ¬ (false = true) by decide)] at H
               obtain rfl := Option.some.inj H
               have hcz56_0 := Goto.bc0 BK280; have hcz56_1 := Goto.bc1 BK280; have hcz56_2 := Goto.bc2 BK280; have hcz56_3 := Goto.bc3 BK280; have hfz56_0 := Goto.bf BK280 0; have hfz56_1 := Goto.bf BK280 1; have hfz56_2 := Goto.bf BK280 2; have hfz56_3 := Goto.bf BK280 3
               have p287 : 0 ≤ (x5_3 : Int) := Goto.od
               have q287 : x5_3 < (l0_3.length : Int) := Goto.od
               obtain ⟨ad287, A287_2, c287_2, A287_3, c287_3, e287, hx287_0, hx287_1, hx287_2, hx287_3, hx287_4, hx287_5, hx287_6, hx287_7, hx287_8, hx287_9, hl287_2, hi287_2, hl287_3, hi287_3⟩ := at_T40 HR0_3.out x5_3 p287 q287
               cases e287
               replace hx287_0 := Goto.kc HB.out hx287_0
               replace hx287_1 := Goto.kc HB.out hx287_1
               replace hx287_2 := Goto.kc HB.out hx287_2
               replace hx287_3 := Goto.kc HB.out hx287_3
               replace hx287_4 := Goto.kc HB.out hx287_4
               replace hx287_5 := Goto.kc HB.out hx287_5
               replace hx287_6 := Goto.kc HB.out hx287_6
               replace hx287_7 := Goto.kc HB.out hx287_7
               replace hx287_8 := Goto.kc HB.out hx287_8
               replace hx287_9 := Goto.kc HB.out hx287_9
               have HR287_2 := Goto.m0 hi287_2
               have HC287_2 := Goto.m0 hl287_2
               clear hi287_2 hl287_2
               have HR287_3 := Goto.m0 hi287_3
               have HC287_3 := Goto.m0 hl287_3
               clear hi287_3 hl287_3; replace p287 := eq_true p287; replace q287 := eq_true q287
               go_wp2_with (first | ((with_reducible refine gate_dst (N := 6) rfl ?_); refine box_event ?hg (N := 6) ?hd (cs := #[.int .i64 0, .int .u64 0, .slice none 0 0, .slice none 0 0, .int .i64 0, .int .i64 0, .int .i64 0, .int .i64 0, .int .i64 0, .int .i64 0]) (t := 40) ?hr ?_; (case hd => rfl); (case hg => rfl); (case hr => first | (go_simp; done) | (go_simp; rfl)); intro gb288 hg w57 hbox hb; have BK288 := Goto.m0 (hbox); have GW288 := Goto.gs HB hg; have GE288 := Goto.gs HB hg; have NB280_288 := Goto.nl BK280 hg; have NB288_280 := Goto.nr BK280 hg; replace BK280 := Goto.bb BK280 hb; replace HB := Goto.hs HB hb; clear hb hbox hg; have hnb58 := NB288_280.out; have hnc58 := NB280_288.out; have hcz59_0 := Goto.bc0 BK288; have hcz59_1 := Goto.bc1 BK288; have hcz59_2 := Goto.bc2 BK288; have hcz59_3 := Goto.bc3 BK288; have hcz59_4 := Goto.bc4 BK288; have hcz59_5 := Goto.bc5 BK288; have hcz59_6 := Goto.bc6 BK288; have hcz59_7 := Goto.bc7 BK288; have hcz59_8 := Goto.bc8 BK288; have hcz59_9 := Goto.bc9 BK288; have hfz59_0 := Goto.bf BK288 0; have hfz59_1 := Goto.bf BK288 1; have hfz59_2 := Goto.bf BK288 2; have hfz59_3 := Goto.bf BK288 3; have hfz59_4 := Goto.bf BK288 4; have hfz59_5 := Goto.bf BK288 5; have hfz59_6 := Goto.bf BK288 6; have hfz59_7 := Goto.bf BK288 7; have hfz59_8 := Goto.bf BK288 8; have hfz59_9 := Goto.bf BK288 9) | ((first | (with_reducible refine gate_callee (f := 20) rfl ?_) | (with_reducible refine Goto.gate_calleeF rfl ?_)); (first | refine goesL_ (some 54) rfl rfl Tryd.func20 (by kernel_rfl) rfl #[.int .i64 ((rd_T40 l0_3 x5_3).f4), .int .i64 1, .int .i64 8] rfl (by (try simp only [List.map_toArray, List.map_cons, List.map_nil]); first | done | rfl | (simp only [List.length_drop, List.length_take]; rfl)) ?_ | refine Goto.goesF_ (some 54) rfl rfl Tryd.func20 (by kernel_rfl) rfl #[.int .i64 ((rd_T40 l0_3 x5_3).f4), .int .i64 1, .int .i64 8] rfl (by (try simp only [List.map_toArray, List.map_cons, List.map_nil]); first | done | rfl | (simp only [List.length_drop, List.length_take]; rfl)) ?_); (with_reducible refine (tontineref1_within.calls ((rd_T40 l0_3 x5_3).f4) 1 8 true _ A30.out).mono ?_); rintro e w' ⟨rfl, ⟨nd, rfl⟩⟩; refine ⟨_, rfl, ?_⟩) | (go_at_call 20; (with_reducible refine (tontineref1_within.calls ((rd_T40 l0_3 x5_3).f5) 0 4 false _ A32.out).mono ?_); rintro e w' ⟨rfl, ⟨nd, rfl⟩⟩))
               go_ret
               exact ⟨Goto.er, by repeat (first | (with_reducible first | exact HB.out | apply below_alloc | apply pw_below_drewN | apply below_drew1 | refine below_set ?_ GE280.out | refine below_set ?_ GE288.out) | exact HB.out)⟩
             ·
              replace c31 := Bool.eq_false_iff.mpr c31
              subst c31
              rw [if_neg (show ¬ (false = true) by decide)] at H
              obtain rfl := Option.some.inj H
              have hcz60_0 := Goto.bc0 BK280; have hcz60_1 := Goto.bc1 BK280; have hcz60_2 := Goto.bc2 BK280; have hcz60_3 := Goto.bc3 BK280; have hfz60_0 := Goto.bf BK280 0; have hfz60_1 := Goto.bf BK280 1; have hfz60_2 := Goto.bf BK280 2; have hfz60_3 := Goto.bf BK280 3
              have p287 : 0 ≤ (x5_3 : Int) := Goto.od
              have q287 : x5_3 < (l0_3.length : Int) := Goto.od
              obtain ⟨ad287, A287_2, c287_2, A287_3, c287_3, e287, hx287_0, hx287_1, hx287_2, hx287_3, hx287_4, hx287_5, hx287_6, hx287_7, hx287_8, hx287_9, hl287_2, hi287_2, hl287_3, hi287_3⟩ := at_T40 HR0_3.out x5_3 p287 q287
              cases e287
              replace hx287_0 := Goto.kc HB.out hx287_0
              replace hx287_1 := Goto.kc HB.out hx287_1
              replace hx287_2 := Goto.kc HB.out hx287_2
              replace hx287_3 := Goto.kc HB.out hx287_3
              replace hx287_4 := Goto.kc HB.out hx287_4
              replace hx287_5 := Goto.kc HB.out hx287_5
              replace hx287_6 := Goto.kc HB.out hx287_6
              replace hx287_7 := Goto.kc HB.out hx287_7
              replace hx287_8 := Goto.kc HB.out hx287_8
              replace hx287_9 := Goto.kc HB.out hx287_9
              have HR287_2 := Goto.m0 hi287_2
              have HC287_2 := Goto.m0 hl287_2
              clear hi287_2 hl287_2
              have HR287_3 := Goto.m0 hi287_3
              have HC287_3 := Goto.m0 hl287_3
              clear hi287_3 hl287_3; replace p287 := eq_true p287; replace q287 := eq_true q287
              go_wp2_with (first | ((with_reducible refine gate_dst (N := 6) rfl ?_); refine box_event ?hg (N := 6) ?hd (cs := #[.int .i64 0, .int .u64 0, .slice none 0 0, .slice none 0 0, .int .i64 0, .int .i64 0, .int .i64 0, .int .i64 0, .int .i64 0, .int .i64 0]) (t := 40) ?hr ?_; (case hd => rfl); (case hg => rfl); (case hr => first | (go_simp; done) | (go_simp; rfl)); intro gb288 hg w61 hbox hb; have BK288 := Goto.m0 (hbox); have GW288 := Goto.gs HB hg; have GE288 := Goto.gs HB hg; have NB280_288 := Goto.nl BK280 hg; have NB288_280 := Goto.nr BK280 hg; replace BK280 := Goto.bb BK280 hb; replace HB := Goto.hs HB hb; clear hb hbox hg; have hnb62 := NB288_280.out; have hnc62 := NB280_288.out; have hcz63_0 := Goto.bc0 BK288; have hcz63_1 := Goto.bc1 BK288; have hcz63_2 := Goto.bc2 BK288; have hcz63_3 := Goto.bc3 BK288; have hcz63_4 := Goto.bc4 BK288; have hcz63_5 := Goto.bc5 BK288; have hcz63_6 := Goto.bc6 BK288; have hcz63_7 := Goto.bc7 BK288; have hcz63_8 := Goto.bc8 BK288; have hcz63_9 := Goto.bc9 BK288; have hfz63_0 := Goto.bf BK288 0; have hfz63_1 := Goto.bf BK288 1; have hfz63_2 := Goto.bf BK288 2; have hfz63_3 := Goto.bf BK288 3; have hfz63_4 := Goto.bf BK288 4; have hfz63_5 := Goto.bf BK288 5; have hfz63_6 := Goto.bf BK288 6; have hfz63_7 := Goto.bf BK288 7; have hfz63_8 := Goto.bf BK288 8; have hfz63_9 := Goto.bf BK288 9) | ((first | (with_reducible refine gate_callee (f := 20) rfl ?_) | (with_reducible refine Goto.gate_calleeF rfl ?_)); (first | refine goesL_ (some 54) rfl rfl Tryd.func20 (by kernel_rfl) rfl #[.int .i64 ((rd_T40 l0_3 x5_3).f4), .int .i64 1, .int .i64 8] rfl (by (try simp only [List.map_toArray, List.map_cons, List.map_nil]); first | done | rfl | (simp only [List.length_drop, List.length_take]; rfl)) ?_ | refine Goto.goesF_ (some 54) rfl rfl Tryd.func20 (by kernel_rfl) rfl #[.int .i64 ((rd_T40 l0_3 x5_3).f4), .int .i64 1, .int .i64 8] rfl (by (try simp only [List.map_toArray, List.map_cons, List.map_nil]); first | done | rfl | (simp only [List.length_drop, List.length_take]; rfl)) ?_); (with_reducible refine (tontineref1_within.calls ((rd_T40 l0_3 x5_3).f4) 1 8 false _ A30.out).mono ?_); rintro e w' ⟨rfl, ⟨nd, rfl⟩⟩; refine ⟨_, rfl, ?_⟩))
              go_ret
              exact ⟨Goto.er, by repeat (first | (with_reducible first | exact HB.out | apply below_alloc | apply pw_below_drewN | apply below_drew1 | refine below_set ?_ GE280.out | refine below_set ?_ GE288.out) | exact HB.out)⟩
            ·
             rw [if_neg c29] at H
             exact absurd H (by simp)
           ·
            rw [if_neg c28] at H
            exact absurd H (by simp)
          ·
           rw [if_neg c27] at H
           have c27b0 : decide (x5_3 < (l0_3.length : Int)) = false := decide_eq_false c27
           clear c27
           have H' := Goto.m0 H
           clear H
           go_wp2
           go_loopg [7] k3 (fun kq v7 w' => ∃ (x7_4 : Int), v7 = .int .i64 x7_4 ∧ Aside0 (tontineref1_IsConf.l2 kq (l0_3.length : Int) x7_4 a0_0 a0_1 l0_2 l0_3 = some r) ∧ Aside0 (kq ≤ k3) ∧ Aside0 (w'.heap[gb280]? = some (.cells #[.int .i64 a0_0, .int .i64 a0_1, (.slice A0_2 l0_2.length c0_2), (.slice A0_3 l0_3.length c0_3)] 25 (0, 0))) ∧ Aside0 (Below w.heap.size w w'))
           case atStart => exact ⟨(0), (by first | rfl | (simp; done) | (simp [*]; done)), H', ⟨Nat.le_refl _⟩, ⟨Goto.bx BK280⟩, ⟨Goto.hx HB⟩⟩
           case round =>
            clear H'
            try clear c1; try clear c2; try clear p2; try clear q2; try clear hx2; try clear c3; try clear c4; try clear c5; try clear c6; try clear p6; try clear c8; try clear c13; try clear c14; try clear c14b0; try clear c15; try clear c15b0; try clear c16; try clear c16b0; try clear c18; try clear c20; try clear c21; try clear c22; try clear c24; try clear c27; try clear c27b0; try clear c28; try clear c28b0; try clear p28; try clear q28; try clear hx28; try clear c29; try clear c29b0; try clear c31; try clear c33; try clear c35; try clear c37; try clear c39; try clear c42; try clear c46; try clear c50; try clear c54; try clear c58; try clear c62; try clear hcz10_0; try clear hcz10_1; try clear hcz10_2; try clear hcz10_3; try clear hcz11_0; try clear hcz11_1; try clear hcz11_2; try clear hcz11_3; try clear hcz12_0; try clear hcz12_1; try clear hcz12_2; try clear hcz12_3; try clear hcz19_0; try clear hcz19_1; try clear hcz19_2; try clear hcz19_3; try clear hcz21_0; try clear hcz21_1; try clear hcz21_2; try clear hcz21_3; try clear hcz25_0; try clear hcz25_1; try clear hcz25_2; try clear hcz25_3; try clear hcz40_0; try clear hcz40_1; try clear hcz40_2; try clear hcz40_3; try clear hcz43_0; try clear hcz43_1; try clear hcz43_2; try clear hcz43_3; try clear hcz43_4; try clear hcz43_5; try clear hcz43_6; try clear hcz43_7; try clear hcz43_8; try clear hcz43_9; try clear hcz44_0; try clear hcz44_1; try clear hcz44_2; try clear hcz44_3; try clear hcz47_0; try clear hcz47_1; try clear hcz47_2; try clear hcz47_3; try clear hcz47_4; try clear hcz47_5; try clear hcz47_6; try clear hcz47_7; try clear hcz47_8; try clear hcz47_9; try clear hcz48_0; try clear hcz48_1; try clear hcz48_2; try clear hcz48_3; try clear hcz4_0; try clear hcz4_1; try clear hcz4_2; try clear hcz4_3; try clear hcz51_0; try clear hcz51_1; try clear hcz51_2; try clear hcz51_3; try clear hcz51_4; try clear hcz51_5; try clear hcz51_6; try clear hcz51_7; try clear hcz51_8; try clear hcz51_9; try clear hcz52_0; try clear hcz52_1; try clear hcz52_2; try clear hcz52_3; try clear hcz55_0; try clear hcz55_1; try clear hcz55_2; try clear hcz55_3; try clear hcz55_4; try clear hcz55_5; try clear hcz55_6; try clear hcz55_7; try clear hcz55_8; try clear hcz55_9; try clear hcz56_0; try clear hcz56_1; try clear hcz56_2; try clear hcz56_3; try clear hcz59_0; try clear hcz59_1; try clear hcz59_2; try clear hcz59_3; try clear hcz59_4; try clear hcz59_5; try clear hcz59_6; try clear hcz59_7; try clear hcz59_8; try clear hcz59_9; try clear hcz60_0; try clear hcz60_1; try clear hcz60_2; try clear hcz60_3; try clear hcz63_0; try clear hcz63_1; try clear hcz63_2; try clear hcz63_3; try clear hcz63_4; try clear hcz63_5; try clear hcz63_6; try clear hcz63_7; try clear hcz63_8; try clear hcz63_9; try clear hfz10_0; try clear hfz10_1; try clear hfz10_2; try clear hfz10_3; try clear hfz11_0; try clear hfz11_1; try clear hfz11_2; try clear hfz11_3; try clear hfz12_0; try clear hfz12_1; try clear hfz12_2; try clear hfz12_3; try clear hfz19_0; try clear hfz19_1; try clear hfz19_2; try clear hfz19_3; try clear hfz21_0; try clear hfz21_1; try clear hfz21_2; try clear hfz21_3; try clear hfz25_0; try clear hfz25_1; try clear hfz25_2; try clear hfz25_3; try clear hfz40_0; try clear hfz40_1; try clear hfz40_2; try clear hfz40_3; try clear hfz43_0; try clear hfz43_1; try clear hfz43_2; try clear hfz43_3; try clear hfz43_4; try clear hfz43_5; try clear hfz43_6; try clear hfz43_7; try clear hfz43_8; try clear hfz43_9; try clear hfz44_0; try clear hfz44_1; try clear hfz44_2; try clear hfz44_3; try clear hfz47_0; try clear hfz47_1; try clear hfz47_2; try clear hfz47_3; try clear hfz47_4; try clear hfz47_5; try clear hfz47_6; try clear hfz47_7; try clear hfz47_8; try clear hfz47_9; try clear hfz48_0; try clear hfz48_1; try clear hfz48_2; try clear hfz48_3; try clear hfz4_0; try clear hfz4_1; try clear hfz4_2; try clear hfz4_3; try clear hfz51_0; try clear hfz51_1; try clear hfz51_2; try clear hfz51_3; try clear hfz51_4; try clear hfz51_5; try clear hfz51_6; try clear hfz51_7; try clear hfz51_8; try clear hfz51_9; try clear hfz52_0; try clear hfz52_1; try clear hfz52_2; try clear hfz52_3; try clear hfz55_0; try clear hfz55_1; try clear hfz55_2; try clear hfz55_3; try clear hfz55_4; try clear hfz55_5; try clear hfz55_6; try clear hfz55_7; try clear hfz55_8; try clear hfz55_9; try clear hfz56_0; try clear hfz56_1; try clear hfz56_2; try clear hfz56_3; try clear hfz59_0; try clear hfz59_1; try clear hfz59_2; try clear hfz59_3; try clear hfz59_4; try clear hfz59_5; try clear hfz59_6; try clear hfz59_7; try clear hfz59_8; try clear hfz59_9; try clear hfz60_0; try clear hfz60_1; try clear hfz60_2; try clear hfz60_3; try clear hfz63_0; try clear hfz63_1; try clear hfz63_2; try clear hfz63_3; try clear hfz63_4; try clear hfz63_5; try clear hfz63_6; try clear hfz63_7; try clear hfz63_8; try clear hfz63_9; try clear hx284_0; try clear hx284_1; try clear hx284_2; try clear hx284_3; try clear hx284_4; try clear hx284_5; try clear hx284_6; try clear hx284_7; try clear hx284_8; try clear hx284_9; try clear hx287_0; try clear hx287_1; try clear hx287_2; try clear hx287_3; try clear hx287_4; try clear hx287_5; try clear hx287_6; try clear hx287_7; try clear hx287_8; try clear hx287_9; try clear p2; try clear p284; try clear p287; try clear p6; try clear q2; try clear q284; try clear q287
            obtain ⟨x7_4, rfl, HA, HK4, BK280, HB⟩ := hrel
            cases gk with
            | zero => exact absurd HA.out (by simp [tontineref1_IsConf.l2])
            | succ k4 =>
             have H := HA.out; clear HA
             simp only [tontineref1_IsConf.l2] at H
             by_cases c64 : x7_4 < (l0_3.length : Int)
             ·
              rw [if_pos c64] at H
              have c64b0 : decide (x7_4 < (l0_3.length : Int)) = true := decide_eq_true c64
              clear c64
              replace H := Option.bind_eq_some_iff.mp H
              obtain ⟨t294, A650, H⟩ := H
              have A65 := Goto.m0 A650
              clear A650
              by_cases c66 : t294 = true
              ·
               subst c66
               rw [if_pos rfl] at H
               have H' := Goto.m0 H
               clear H; have hcz67_0 := Goto.bc0 BK280; have hcz67_1 := Goto.bc1 BK280; have hcz67_2 := Goto.bc2 BK280; have hcz67_3 := Goto.bc3 BK280; have hfz67_0 := Goto.bf BK280 0; have hfz67_1 := Goto.bf BK280 1; have hfz67_2 := Goto.bf BK280 2; have hfz67_3 := Goto.bf BK280 3
               go_wp2_with (first | ((first | (with_reducible refine gate_callee (f := 23) rfl ?_) | (with_reducible refine Goto.gate_calleeF rfl ?_)); (first | refine goesL_ (some 87) rfl rfl Tryd.func23 (by kernel_rfl) rfl #[.agg #[.int .i64 a0_0, .int .i64 a0_1, .slice A0_2 l0_2.length c0_2, .slice A0_3 l0_3.length c0_3], .int .i64 x7_4] rfl (by (try simp only [List.map_toArray, List.map_cons, List.map_nil]); first | done | rfl | (simp only [List.length_drop, List.length_take]; rfl)) ?_ | refine Goto.goesF_ (some 87) rfl rfl Tryd.func23 (by kernel_rfl) rfl #[.agg #[.int .i64 a0_0, .int .i64 a0_1, .slice A0_2 l0_2.length c0_2, .slice A0_3 l0_3.length c0_3], .int .i64 x7_4] rfl (by (try simp only [List.map_toArray, List.map_cons, List.map_nil]); first | done | rfl | (simp only [List.length_drop, List.length_take]; rfl)) ?_); (with_reducible refine (tontineref1_routes.calls k4 a0_0 a0_1 _ _ l0_2 _ _ l0_3 x7_4 true _ ?side1 ?side2 ?side3 ?side4 A65.out).mono ?_); (case side1 => repeat (first | exact (Kd.C_below HR0_2.out HB.out) | (with_reducible refine Kd.C_alloc ?_ _) | (with_reducible refine Kd.C_drewN ?_ _) | (with_reducible refine Kd.C_drew ?_))); (case side2 => exact HC0_2.out); (case side3 => repeat (first | exact (Kd.C_below HR0_3.out HB.out) | (with_reducible refine Kd.C_alloc ?_ _) | (with_reducible refine Kd.C_drewN ?_ _) | (with_reducible refine Kd.C_drew ?_))); (case side4 => exact HC0_3.out); rintro e w68 ⟨rfl, hb⟩; refine ⟨_, rfl, ?_⟩; replace BK280 := Goto.bb BK280 hb; replace HB := Goto.hs HB hb; (try clear hb); (try clear hb2); (try clear hk); (try clear hi)))
               go_roundg k4
               case measure => have := HJ1.out; have := HK2.out; have := HK3.out; have := HK4.out; omega
               case rel => exact ⟨(wrap64 (x7_4 + 1)), (by first | rfl | (simp; done) | (simp [*]; done)), H', ⟨by have := HJ1.out; have := HK2.out; have := HK3.out; have := HK4.out; omega⟩, ⟨Goto.bx BK280⟩, ⟨Goto.hx HB⟩⟩
              ·
               replace c66 := Bool.eq_false_iff.mpr c66
               subst c66
               rw [if_neg (show ¬ (false = true) by decide)] at H
               obtain rfl := Option.some.inj H
               have hcz69_0 := Goto.bc0 BK280; have hcz69_1 := Goto.bc1 BK280; have hcz69_2 := Goto.bc2 BK280; have hcz69_3 := Goto.bc3 BK280; have hfz69_0 := Goto.bf BK280 0; have hfz69_1 := Goto.bf BK280 1; have hfz69_2 := Goto.bf BK280 2; have hfz69_3 := Goto.bf BK280 3
               go_wp2_with (first | ((first | (with_reducible refine gate_callee (f := 23) rfl ?_) | (with_reducible refine Goto.gate_calleeF rfl ?_)); (first | refine goesL_ (some 87) rfl rfl Tryd.func23 (by kernel_rfl) rfl #[.agg #[.int .i64 a0_0, .int .i64 a0_1, .slice A0_2 l0_2.length c0_2, .slice A0_3 l0_3.length c0_3], .int .i64 x7_4] rfl (by (try simp only [List.map_toArray, List.map_cons, List.map_nil]); first | done | rfl | (simp only [List.length_drop, List.length_take]; rfl)) ?_ | refine Goto.goesF_ (some 87) rfl rfl Tryd.func23 (by kernel_rfl) rfl #[.agg #[.int .i64 a0_0, .int .i64 a0_1, .slice A0_2 l0_2.length c0_2, .slice A0_3 l0_3.length c0_3], .int .i64 x7_4] rfl (by (try simp only [List.map_toArray, List.map_cons, List.map_nil]); first | done | rfl | (simp only [List.length_drop, List.length_take]; rfl)) ?_); (with_reducible refine (tontineref1_routes.calls k4 a0_0 a0_1 _ _ l0_2 _ _ l0_3 x7_4 false _ ?side1 ?side2 ?side3 ?side4 A65.out).mono ?_); (case side1 => repeat (first | exact (Kd.C_below HR0_2.out HB.out) | (with_reducible refine Kd.C_alloc ?_ _) | (with_reducible refine Kd.C_drewN ?_ _) | (with_reducible refine Kd.C_drew ?_))); (case side2 => exact HC0_2.out); (case side3 => repeat (first | exact (Kd.C_below HR0_3.out HB.out) | (with_reducible refine Kd.C_alloc ?_ _) | (with_reducible refine Kd.C_drewN ?_ _) | (with_reducible refine Kd.C_drew ?_))); (case side4 => exact HC0_3.out); rintro e w70 ⟨rfl, hb⟩; refine ⟨_, rfl, ?_⟩; replace BK280 := Goto.bb BK280 hb; replace HB := Goto.hs HB hb; (try clear hb); (try clear hb2); (try clear hk); (try clear hi)))
               go_ret
               exact ⟨Goto.er, by repeat (first | (with_reducible first | exact HB.out | apply below_alloc | apply pw_below_drewN | apply below_drew1 | refine below_set ?_ GE280.out) | exact HB.out)⟩
             ·
              rw [if_neg c64] at H
              have c64b0 : decide (x7_4 < (l0_3.length : Int)) = false := decide_eq_false c64
              clear c64
              obtain rfl := Option.some.inj H
              go_wp2
              go_ret
              exact ⟨Goto.er, by repeat (first | (with_reducible first | exact HB.out | apply below_alloc | apply pw_below_drewN | apply below_drew1 | refine below_set ?_ GE280.out) | exact HB.out)⟩
       ·
        replace c24 := Bool.eq_false_iff.mpr c24
        subst c24
        rw [if_neg (show ¬ (false = true) by decide)] at H
        obtain rfl := Option.some.inj H
        have hcz71_0 := Goto.bc0 BK280; have hcz71_1 := Goto.bc1 BK280; have hcz71_2 := Goto.bc2 BK280; have hcz71_3 := Goto.bc3 BK280; have hfz71_0 := Goto.bf BK280 0; have hfz71_1 := Goto.bf BK280 1; have hfz71_2 := Goto.bf BK280 2; have hfz71_3 := Goto.bf BK280 3
        go_wp2_with (first | ((first | (with_reducible refine gate_callee (f := 22) rfl ?_) | (with_reducible refine Goto.gate_calleeF rfl ?_)); (first | refine goesL_ (some 40) rfl rfl Tryd.func22 (by kernel_rfl) rfl #[.agg #[.int .i64 a0_0, .int .i64 a0_1, .slice A0_2 l0_2.length c0_2, .slice A0_3 l0_3.length c0_3]] rfl (by (try simp only [List.map_toArray, List.map_cons, List.map_nil]); first | done | rfl | (simp only [List.length_drop, List.length_take]; rfl)) ?_ | refine Goto.goesF_ (some 40) rfl rfl Tryd.func22 (by kernel_rfl) rfl #[.agg #[.int .i64 a0_0, .int .i64 a0_1, .slice A0_2 l0_2.length c0_2, .slice A0_3 l0_3.length c0_3]] rfl (by (try simp only [List.map_toArray, List.map_cons, List.map_nil]); first | done | rfl | (simp only [List.length_drop, List.length_take]; rfl)) ?_); (with_reducible refine (tontineref1_shares.calls k2 a0_0 a0_1 _ _ l0_2 _ _ l0_3 false _ ?side1 ?side2 ?side3 ?side4 A23.out).mono ?_); (case side1 => repeat (first | exact (Kd.C_below HR0_2.out HB.out) | (with_reducible refine Kd.C_alloc ?_ _) | (with_reducible refine Kd.C_drewN ?_ _) | (with_reducible refine Kd.C_drew ?_))); (case side2 => exact HC0_2.out); (case side3 => repeat (first | exact (Kd.C_below HR0_3.out HB.out) | (with_reducible refine Kd.C_alloc ?_ _) | (with_reducible refine Kd.C_drewN ?_ _) | (with_reducible refine Kd.C_drew ?_))); (case side4 => exact HC0_3.out); rintro e w72 ⟨rfl, hb⟩; refine ⟨_, rfl, ?_⟩; replace BK280 := Goto.bb BK280 hb; replace HB := Goto.hs HB hb; (try clear hb); (try clear hb2); (try clear hk); (try clear hi)))
        go_ret
        exact ⟨Goto.er, by repeat (first | (with_reducible first | exact HB.out | apply below_alloc | apply pw_below_drewN | apply below_drew1 | refine below_set ?_ GE280.out) | exact HB.out)⟩

/-! ### tontineref1_Ticks: function 10 -/
def tontineref1_Ticks.f (k : Nat) (a0_0 : Int) (a0_1 : Int) (l0_2 : List (List Int)) (l0_3 : List (S40)) : Option (Int) := (tontineref1_IsConf.f k a0_0 a0_1 l0_2 l0_3).bind fun t296 => (if t296 = 0 then (some (wrap64 (a0_0 * a0_1))) else (some 0))
set_option maxHeartbeats 8000000 in
set_option maxRecDepth 100000 in
theorem tontineref1_Ticks.calls (k : Nat) (a0_0 : Int) (a0_1 : Int) (A0_2 : Option Addr) (c0_2 : Nat) (l0_2 : List (List Int)) (A0_3 : Option Addr) (c0_3 : Nat) (l0_3 : List (S40)) (r : Int) (w : World) (hr0_2 : Kd.C (Kd.slice 3 (Kd.int .i64)) w A0_2 l0_2.length l0_2) (hc0_2 : l0_2.length ≤ c0_2) (hr0_3 : Kd.C k40 w A0_3 l0_3.length l0_3) (hc0_3 : l0_3.length ≤ c0_3) (h : tontineref1_Ticks.f k a0_0 a0_1 l0_2 l0_3 = some r) :
    Calls Tryd.prog 10 #[.agg #[.int .i64 a0_0, .int .i64 a0_1, .slice A0_2 l0_2.length c0_2, .slice A0_3 l0_3.length c0_3]] w fun e w' => e = .returned (.int .i64 r) ∧ Below w.heap.size w w' := by
 have hu25 := Tryd.underlying25
 have HR0_2 := Goto.m0 hr0_2
 have HC0_2 := Goto.m0 hc0_2
 clear hr0_2 hc0_2
 have HR0_3 := Goto.m0 hr0_3
 have HC0_3 := Goto.m0 hc0_3
 clear hr0_3 hc0_3
 have HB := Goto.m0 (Below.refl w.heap.size w)
 have H : ((tontineref1_IsConf.f k a0_0 a0_1 l0_2 l0_3).bind fun t296 => (if t296 = 0 then (some (wrap64 (a0_0 * a0_1))) else (some 0))) = some r := h
 clear h
 replace H := Option.bind_eq_some_iff.mp H
 obtain ⟨t296, A20, H⟩ := H
 have A2 := Goto.m0 A20
 clear A20
 by_cases c3 : t296 = 0
 ·
  rw [if_pos c3] at H
  have c3b0 : (t296 == 0) = true := beq_iff_eq.mpr c3
  have c3b1 : (t296 != 0) = false := bne_eq_false_iff_eq.mpr c3
  clear c3
  obtain rfl := Option.some.inj H
  go_enter Tryd.func10, Tryd.ntmps10
  go_wp2_with (first | ((with_reducible refine gate_dst (N := 1) rfl ?_); refine box_event ?hg (N := 1) ?hd (cs := #[.int .i64 a0_0, .int .i64 a0_1, .slice A0_2 l0_2.length c0_2, .slice A0_3 l0_3.length c0_3]) (t := 25) ?hr ?_; (case hd => rfl); (case hg => rfl); (case hr => first | (go_simp; done) | (go_simp; rfl)); intro gb295 hg w4 hbox hb; have BK295 := Goto.m0 (hbox); have GW295 := Goto.gs HB hg; have GE295 := Goto.gs HB hg; replace HB := Goto.hs HB hb; clear hb hbox hg; have hcz5_0 := Goto.bc0 BK295; have hcz5_1 := Goto.bc1 BK295; have hcz5_2 := Goto.bc2 BK295; have hcz5_3 := Goto.bc3 BK295; have hfz5_0 := Goto.bf BK295 0; have hfz5_1 := Goto.bf BK295 1; have hfz5_2 := Goto.bf BK295 2; have hfz5_3 := Goto.bf BK295 3) | ((first | (with_reducible refine gate_callee (f := 8) rfl ?_) | (with_reducible refine Goto.gate_calleeF rfl ?_)); (first | refine goesL_ (some 4) rfl rfl Tryd.func8 (by kernel_rfl) rfl #[.agg #[.int .i64 a0_0, .int .i64 a0_1, .slice A0_2 l0_2.length c0_2, .slice A0_3 l0_3.length c0_3]] rfl (by (try simp only [List.map_toArray, List.map_cons, List.map_nil]); first | done | rfl | (simp only [List.length_drop, List.length_take]; rfl)) ?_ | refine Goto.goesF_ (some 4) rfl rfl Tryd.func8 (by kernel_rfl) rfl #[.agg #[.int .i64 a0_0, .int .i64 a0_1, .slice A0_2 l0_2.length c0_2, .slice A0_3 l0_3.length c0_3]] rfl (by (try simp only [List.map_toArray, List.map_cons, List.map_nil]); first | done | rfl | (simp only [List.length_drop, List.length_take]; rfl)) ?_); (with_reducible refine (tontineref1_IsConf.calls k a0_0 a0_1 _ _ l0_2 _ _ l0_3 t296 _ ?side1 ?side2 ?side3 ?side4 A2.out).mono ?_); (case side1 => repeat (first | exact (Kd.C_below HR0_2.out HB.out) | (with_reducible refine Kd.C_alloc ?_ _) | (with_reducible refine Kd.C_drewN ?_ _) | (with_reducible refine Kd.C_drew ?_))); (case side2 => exact HC0_2.out); (case side3 => repeat (first | exact (Kd.C_below HR0_3.out HB.out) | (with_reducible refine Kd.C_alloc ?_ _) | (with_reducible refine Kd.C_drewN ?_ _) | (with_reducible refine Kd.C_drew ?_))); (case side4 => exact HC0_3.out); rintro e w6 ⟨rfl, hb⟩; refine ⟨_, rfl, ?_⟩; replace BK295 := Goto.bb BK295 hb; replace HB := Goto.hs HB hb; (try clear hb); (try clear hb2); (try clear hk); (try clear hi); have hcz7_0 := Goto.bc0 BK295; have hcz7_1 := Goto.bc1 BK295; have hcz7_2 := Goto.bc2 BK295; have hcz7_3 := Goto.bc3 BK295; have hfz7_0 := Goto.bf BK295 0; have hfz7_1 := Goto.bf BK295 1; have hfz7_2 := Goto.bf BK295 2; have hfz7_3 := Goto.bf BK295 3))
  go_ret
  exact ⟨Goto.er, by repeat (first | (with_reducible first | exact HB.out | apply below_alloc | apply pw_below_drewN | apply below_drew1 | refine below_set ?_ GE295.out) | exact HB.out)⟩
 ·
  rw [if_neg c3] at H
  have c3b0 : (t296 == 0) = false := beq_eq_false_iff_ne.mpr c3
  have c3b1 : (t296 != 0) = true := bne_iff_ne.mpr c3
  obtain rfl := Option.some.inj H
  go_enter Tryd.func10, Tryd.ntmps10
  go_wp2_with (first | ((with_reducible refine gate_dst (N := 1) rfl ?_); refine box_event ?hg (N := 1) ?hd (cs := #[.int .i64 a0_0, .int .i64 a0_1, .slice A0_2 l0_2.length c0_2, .slice A0_3 l0_3.length c0_3]) (t := 25) ?hr ?_; (case hd => rfl); (case hg => rfl); (case hr => first | (go_simp; done) | (go_simp; rfl)); intro gb295 hg w8 hbox hb; have BK295 := Goto.m0 (hbox); have GW295 := Goto.gs HB hg; have GE295 := Goto.gs HB hg; replace HB := Goto.hs HB hb; clear hb hbox hg; have hcz9_0 := Goto.bc0 BK295; have hcz9_1 := Goto.bc1 BK295; have hcz9_2 := Goto.bc2 BK295; have hcz9_3 := Goto.bc3 BK295; have hfz9_0 := Goto.bf BK295 0; have hfz9_1 := Goto.bf BK295 1; have hfz9_2 := Goto.bf BK295 2; have hfz9_3 := Goto.bf BK295 3) | ((first | (with_reducible refine gate_callee (f := 8) rfl ?_) | (with_reducible refine Goto.gate_calleeF rfl ?_)); (first | refine goesL_ (some 4) rfl rfl Tryd.func8 (by kernel_rfl) rfl #[.agg #[.int .i64 a0_0, .int .i64 a0_1, .slice A0_2 l0_2.length c0_2, .slice A0_3 l0_3.length c0_3]] rfl (by (try simp only [List.map_toArray, List.map_cons, List.map_nil]); first | done | rfl | (simp only [List.length_drop, List.length_take]; rfl)) ?_ | refine Goto.goesF_ (some 4) rfl rfl Tryd.func8 (by kernel_rfl) rfl #[.agg #[.int .i64 a0_0, .int .i64 a0_1, .slice A0_2 l0_2.length c0_2, .slice A0_3 l0_3.length c0_3]] rfl (by (try simp only [List.map_toArray, List.map_cons, List.map_nil]); first | done | rfl | (simp only [List.length_drop, List.length_take]; rfl)) ?_); (with_reducible refine (tontineref1_IsConf.calls k a0_0 a0_1 _ _ l0_2 _ _ l0_3 t296 _ ?side1 ?side2 ?side3 ?side4 A2.out).mono ?_); (case side1 => repeat (first | exact (Kd.C_below HR0_2.out HB.out) | (with_reducible refine Kd.C_alloc ?_ _) | (with_reducible refine Kd.C_drewN ?_ _) | (with_reducible refine Kd.C_drew ?_))); (case side2 => exact HC0_2.out); (case side3 => repeat (first | exact (Kd.C_below HR0_3.out HB.out) | (with_reducible refine Kd.C_alloc ?_ _) | (with_reducible refine Kd.C_drewN ?_ _) | (with_reducible refine Kd.C_drew ?_))); (case side4 => exact HC0_3.out); rintro e w10 ⟨rfl, hb⟩; refine ⟨_, rfl, ?_⟩; replace BK295 := Goto.bb BK295 hb; replace HB := Goto.hs HB hb; (try clear hb); (try clear hb2); (try clear hk); (try clear hi)))
  go_ret
  exact ⟨Goto.er, by repeat (first | (with_reducible first | exact HB.out | apply below_alloc | apply pw_below_drewN | apply below_drew1 | refine below_set ?_ GE295.out) | exact HB.out)⟩

/-! ### tontineref1_SameInts: function 29 -/
def tontineref1_SameInts.l0 : Nat → List Int → List Int → Int → Option (Bool)
  | 0, _, _, _ => none
  | k + 1, x0, x1, x5 => if x5 < (x0.length : Int) then (if 0 ≤ x5 then (if x5 < (x1.length : Int) then (if (rd x0 x5) = (rd x1 x5) then (tontineref1_SameInts.l0 k x0 x1 (wrap64 (x5 + 1))) else (some false)) else (none)) else (none)) else (some true)
def tontineref1_SameInts.f (k : Nat) (l0 : List Int) (l1 : List Int) : Option (Bool) := if (l0.length : Int) = (l1.length : Int) then (tontineref1_SameInts.l0 k l0 l1 0) else (some false)
set_option maxHeartbeats 8000000 in
set_option maxRecDepth 100000 in
theorem tontineref1_SameInts.calls (k : Nat) (A0 : Option Addr) (c0 : Nat) (l0 : List Int) (A1 : Option Addr) (c1 : Nat) (l1 : List Int) (r : Bool) (w : World) (hr0 : Kd.C (Kd.int .i64) w A0 l0.length l0) (hc0 : l0.length ≤ c0) (hr1 : Kd.C (Kd.int .i64) w A1 l1.length l1) (hc1 : l1.length ≤ c1) (h : tontineref1_SameInts.f k l0 l1 = some r) :
    Calls Tryd.prog 29 #[.slice A0 l0.length c0, .slice A1 l1.length c1] w fun e w' => e = .returned (.bool r) ∧ Drawn0 w w' := by
 have HR0 := Goto.m0 hr0
 have HC0 := Goto.m0 hc0
 clear hr0 hc0
 have HR1 := Goto.m0 hr1
 have HC1 := Goto.m0 hc1
 clear hr1 hc1
 have H : (if (l0.length : Int) = (l1.length : Int) then (tontineref1_SameInts.l0 k l0 l1 0) else (some false)) = some r := h
 clear h
 by_cases c3 : (l0.length : Int) = (l1.length : Int)
 ·
  rw [if_pos c3] at H
  have c3b0 : ((l0.length : Int) == (l1.length : Int)) = true := beq_iff_eq.mpr c3
  have c3b1 : ((l0.length : Int) != (l1.length : Int)) = false := bne_eq_false_iff_eq.mpr c3
  have c3b2 : (l0.length == l1.length) = true := by first | simpa using c3 | (simp at c3 ⊢; omega)
  clear c3
  have H' := Goto.m0 H
  clear H
  go_enter Tryd.func29, Tryd.ntmps29
  go_wp2
  repeat (go_quiet (fail); try go_wp2)
  go_loopg [5] k (fun kq v5 w' => ∃ (x5_1 : Int), v5 = .int .i64 x5_1 ∧ Aside0 (tontineref1_SameInts.l0 kq l0 l1 x5_1 = some r) ∧ Aside0 (kq ≤ k) ∧ Drawn0 w w')
  case atStart => exact ⟨(0), (by first | rfl | (simp; done) | (simp [*]; done)), H', ⟨Nat.le_refl _⟩, by repeat (first | exact Drawn0.refl _ | apply Drawn0.step)⟩
  case round =>
   clear H'
   try clear c1; try clear c2; try clear p2; try clear c3; try clear c3b0; try clear c3b1; try clear c3b2
   obtain ⟨x5_1, rfl, HA, HK1, ⟨m1, rfl⟩⟩ := hrel
   cases gk with
   | zero => exact absurd HA.out (by simp [tontineref1_SameInts.l0])
   | succ k1 =>
    have H := HA.out; clear HA
    simp only [tontineref1_SameInts.l0] at H
    by_cases c4 : x5_1 < (l0.length : Int)
    ·
     rw [if_pos c4] at H
     have c4b0 : decide (x5_1 < (l0.length : Int)) = true := decide_eq_true c4
     clear c4
     by_cases c5 : 0 ≤ x5_1
     ·
      rw [if_pos c5] at H
      have c5b0 : decide (0 ≤ x5_1) = true := decide_eq_true c5
      clear c5
      by_cases c6 : x5_1 < (l1.length : Int)
      ·
       rw [if_pos c6] at H
       have c6b0 : decide (x5_1 < (l1.length : Int)) = true := decide_eq_true c6
       clear c6
       by_cases c7 : (rd l0 x5_1) = (rd l1 x5_1)
       ·
        rw [if_pos c7] at H
        have c7b0 : ((rd l0 x5_1) == (rd l1 x5_1)) = true := beq_iff_eq.mpr c7
        have c7b1 : ((rd l0 x5_1) != (rd l1 x5_1)) = false := bne_eq_false_iff_eq.mpr c7
        clear c7
        have H' := Goto.m0 H
        clear H
        have p297 : 0 ≤ (x5_1 : Int) := Goto.od
        have q297 : x5_1 < (l0.length : Int) := Goto.od
        obtain ⟨ad297, e297, hx297_0⟩ := Kd.at_int HR0.out x5_1 p297 q297
        cases e297
        replace p297 := eq_true p297; replace q297 := eq_true q297
        have p298 : 0 ≤ (x5_1 : Int) := Goto.od
        have q298 : x5_1 < (l1.length : Int) := Goto.od
        obtain ⟨ad298, e298, hx298_0⟩ := Kd.at_int HR1.out x5_1 p298 q298
        cases e298
        replace p298 := eq_true p298; replace q298 := eq_true q298
        go_wp2
        repeat (go_quiet (fail); try go_wp2)
        go_roundg k1
        case measure => have := HK1.out; omega
        case rel => exact ⟨(wrap64 (x5_1 + 1)), (by first | rfl | (simp; done) | (simp [*]; done)), H', ⟨by have := HK1.out; omega⟩, by repeat (first | exact Drawn0.refl _ | apply Drawn0.step)⟩
       ·
        rw [if_neg c7] at H
        have c7b0 : ((rd l0 x5_1) == (rd l1 x5_1)) = false := beq_eq_false_iff_ne.mpr c7
        have c7b1 : ((rd l0 x5_1) != (rd l1 x5_1)) = true := bne_iff_ne.mpr c7
        obtain rfl := Option.some.inj H
        have p297 : 0 ≤ (x5_1 : Int) := Goto.od
        have q297 : x5_1 < (l0.length : Int) := Goto.od
        obtain ⟨ad297, e297, hx297_0⟩ := Kd.at_int HR0.out x5_1 p297 q297
        cases e297
        replace p297 := eq_true p297; replace q297 := eq_true q297
        have p298 : 0 ≤ (x5_1 : Int) := Goto.od
        have q298 : x5_1 < (l1.length : Int) := Goto.od
        obtain ⟨ad298, e298, hx298_0⟩ := Kd.at_int HR1.out x5_1 p298 q298
        cases e298
        replace p298 := eq_true p298; replace q298 := eq_true q298
        go_wp2
        repeat (go_quiet (fail); try go_wp2)
        go_ret
        exact ⟨by first | rfl | (simp; done) | (simp [*]; done), by repeat (first | exact Drawn0.refl _ | apply Drawn0.step)⟩
      ·
       rw [if_neg c6] at H
       exact absurd H (by simp)
     ·
      rw [if_neg c5] at H
      exact absurd H (by simp)
    ·
     rw [if_neg c4] at H
     have c4b0 : decide (x5_1 < (l0.length : Int)) = false := decide_eq_false c4
     clear c4
     obtain rfl := Option.some.inj H
     go_wp2
     repeat (go_quiet (fail); try go_wp2)
     go_ret
     exact ⟨by first | rfl | (simp; done) | (simp [*]; done), by repeat (first | exact Drawn0.refl _ | apply Drawn0.step)⟩
 ·
  rw [if_neg c3] at H
  have c3b0 : ((l0.length : Int) == (l1.length : Int)) = false := beq_eq_false_iff_ne.mpr c3
  have c3b1 : ((l0.length : Int) != (l1.length : Int)) = true := bne_iff_ne.mpr c3
  have c3b2 : (l0.length == l1.length) = false := by first | simpa using c3 | (simp at c3 ⊢; omega)
  obtain rfl := Option.some.inj H
  go_enter Tryd.func29, Tryd.ntmps29
  go_wp2
  repeat (go_quiet (fail); try go_wp2)
  go_ret
  exact ⟨by first | rfl | (simp; done) | (simp [*]; done), by repeat (first | exact Drawn0.refl _ | apply Drawn0.step)⟩

end Go.Proofs.YtjgdcifbhmjinaaDoor.P
