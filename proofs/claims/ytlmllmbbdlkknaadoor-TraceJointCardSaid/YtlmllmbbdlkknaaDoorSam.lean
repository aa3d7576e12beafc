/- trace.Same, of rows of at most sixty: they are the same. Its text is walked; the numbers as floats are as many as the numbers. -/
import Derived.Test.YtlmllmbbdlkknaaDoorPx3
import Derived.WalkKit
import Derived.Laws.Cover3
import Derived.Laws.FloatArith
namespace Go.Proofs.YtlmllmbbdlkknaaDoor.P
open Go Go.RowKit Go.Proofs.YtlmllmbbdlkknaaDoorW.PrintWords Go.Proofs.YtlmllmbbdlkknaaDoorW.PrintLast
theorem flt_all : ((List.range 61).all fun a => (List.range 61).all fun b => (FloatKind.f64.format.order (FloatKind.f64.nearest (a : Nat)) (FloatKind.f64.nearest (b : Nat)) == some .eq) == (a == b)) = true := by decide +kernel
theorem flt (a b : Nat) (ha : a ≤ 60) (hb : b ≤ 60) : (FloatKind.f64.format.order (FloatKind.f64.nearest (a : Nat)) (FloatKind.f64.nearest (b : Nat)) == some .eq) = (a == b) := by
  have h1 := List.all_eq_true.1 flt_all a (List.mem_range.2 (by omega))
  have h2 := List.all_eq_true.1 h1 b (List.mem_range.2 (by omega))
  exact beq_iff_eq.1 h2
theorem many_calls (A0 A1 : Option Addr) (n0 n1 c0 c1 : Nat) (w : World) :
    Calls Tryd.prog 28 #[.slice A0 n0 c0, .slice A1 n1 c1] w fun e w' => e = .returned (.complex .f64 (FloatKind.f64.nearest (n0 : Nat)) (FloatKind.f64.nearest (n1 : Nat))) ∧ w' = w := by
  go_enter Tryd.func28, Tryd.ntmps28
  go_wp2
  go_ret
  exact ⟨rfl, rfl⟩
def oRow (x : S35) : List Int := [x.f0, x.f1, x.f2, x.f3, x.f4, x.f5]
def sameO (l m : List S35) : Bool := l.map oRow == m.map oRow
theorem oRow_eq (x y : S35) : (oRow x == oRow y) = !((!(x.f0 == y.f0)) || (!(x.f1 == y.f1) || (!(x.f2 == y.f2) || (!(x.f3 == y.f3) || (!(x.f4 == y.f4) || (!(x.f5 == y.f5))))))) := by
  unfold oRow
  rw [Bool.eq_iff_iff]
  simp only [List.cons_beq_cons, Bool.and_eq_true, beq_iff_eq, Bool.not_eq_true', Bool.or_eq_false_iff, Bool.not_eq_false']
  simp
theorem equal_l (x y : List S35) (n : Nat) (hx : x.length = n) (hy : y.length = n) (hn : n ≤ 1152921504606846976) : ∀ (d i k : Nat), i + d = n → d < k → api_Obs.l0 k x y (n : Int) (i : Int) = some ((x.drop i).map oRow == (y.drop i).map oRow) := by
  intro d
  induction d with
  | zero =>
    intro i k hi hk
    obtain ⟨k, rfl⟩ : ∃ m, k = m + 1 := ⟨k - 1, by omega⟩
    simp only [api_Obs.l0]
    rw [if_neg (by omega), List.drop_of_length_le (by omega), List.drop_of_length_le (by omega)]
    rfl
  | succ d ih =>
    intro i k hi hk
    obtain ⟨k, rfl⟩ : ∃ m, k = m + 1 := ⟨k - 1, by omega⟩
    have h := ih (i + 1) k (by omega) (by omega)
    have ex : x.drop i = rd_T35 x i :: x.drop (i + 1) := by
      rw [List.drop_eq_getElem_cons (by omega)]
      congr 1
      simp [rd_T35, show i < x.length by omega]
    have ey : y.drop i = rd_T35 y i :: y.drop (i + 1) := by
      rw [List.drop_eq_getElem_cons (by omega)]
      congr 1
      simp [rd_T35, show i < y.length by omega]
    have hw : wrap64 ((i : Int) + 1) = ((i + 1 : Nat) : Int) := by unfold wrap64; omega
    simp only [api_Obs.l0]
    rw [if_pos (by omega), if_pos (by omega), if_pos (by omega), if_pos (by omega), ex, ey, List.map_cons, List.map_cons, List.cons_beq_cons, oRow_eq, hw, h]
    generalize ((!((rd_T35 x i).f0 == (rd_T35 y i).f0)) || (!((rd_T35 x i).f1 == (rd_T35 y i).f1) || (!((rd_T35 x i).f2 == (rd_T35 y i).f2) || (!((rd_T35 x i).f3 == (rd_T35 y i).f3) || (!((rd_T35 x i).f4 == (rd_T35 y i).f4) || (!((rd_T35 x i).f5 == (rd_T35 y i).f5))))))) = c
    cases c <;> simp
theorem equal_f (x y : List S35) (hn : x.length ≤ 1152921504606846976) : api_Obs.f (x.length + 1) x y = some (sameO x y) := by
  unfold api_Obs.f sameO
  by_cases h : x.length = y.length
  · rw [if_pos (by omega)]
    have := equal_l x y x.length rfl h.symm hn x.length 0 (x.length + 1) (by omega) (by omega)
    simpa using this
  · rw [if_neg (by omega)]
    congr 1
    symm
    rw [beq_eq_false_iff_ne]
    intro e
    have := congrArg List.length e
    simp at this
    omega
theorem sameO_ne {x y : List S35} (h : ¬ x.length = y.length) : sameO x y = false := by
  unfold sameO
  rw [beq_eq_false_iff_ne]
  intro e
  have := congrArg List.length e
  simp at this
  omega
def ext_11.f (l0 l1 : List S35) : Option Bool := if l0.length ≤ 60 ∧ l1.length ≤ 60 then some (sameO l0 l1) else none
set_option maxRecDepth 100000 in
set_option maxHeartbeats 1000000 in
theorem ext_11.calls (A0 : Option Addr) (c0 : Nat) (l0 : List S35) (A1 : Option Addr) (c1 : Nat) (l1 : List S35) (r : Bool) (w : World) (hr0 : Kd.C k35 w A0 l0.length l0) (hc0 : l0.length ≤ c0) (hr1 : Kd.C k35 w A1 l1.length l1) (hc1 : l1.length ≤ c1)
    (h : ext_11.f l0 l1 = some r) : Calls Tryd.prog 11 #[.slice A0 l0.length c0, .slice A1 l1.length c1] w fun e w' => e = .returned (.bool r) ∧ Drawn0 w w' := by
  unfold ext_11.f at h
  split at h
  · rename_i hl
    obtain rfl := Option.some.inj h
    have he := equal_f l0 l1 (by omega)
    have hf := flt l0.length l1.length hl.1 hl.2
    have hf' : (FloatKind.f64.format.order (floatOfInt FloatKind.f64 (l0.length : Int)) (floatOfInt FloatKind.f64 (l1.length : Int)) == some .eq) = (l0.length == l1.length) := hf
    by_cases hll : l0.length = l1.length
    · have key := api_Obs.calls (l0.length + 1) A0 c0 l0 A1 c1 l1 (sameO l0 l1) w hr0 hc0 hr1 hc1 he
      rw [hll] at key
      clear hr0 hr1
      go_enter Tryd.func11, Tryd.ntmps11
      go_wp2_with (first
        | (go_at_call 28; with_reducible refine (many_calls A0 A1 _ _ c0 c1 _).mono ?_; rintro e w' ⟨rfl, rfl⟩)
        | (go_at_call 29; with_reducible refine key.mono ?_; rintro e w2 ⟨rfl, nd, rfl⟩))
      · go_ret
        exact ⟨rfl, nd, rfl⟩
      · rename_i hne
        rw [hll, beq_self_eq_true] at hf
        exact absurd (beq_iff_eq.1 hf) hne
    · clear hr0 hr1
      go_enter Tryd.func11, Tryd.ntmps11
      go_wp2_with (first
        | (go_at_call 28; with_reducible refine (many_calls A0 A1 _ _ c0 c1 _).mono ?_; rintro e w' ⟨rfl, rfl⟩))
      go_ret
      refine ⟨?_, 0, rfl⟩
      rw [sameO_ne hll]
      rfl
  · cases h
end Go.Proofs.YtlmllmbbdlkknaaDoor.P
