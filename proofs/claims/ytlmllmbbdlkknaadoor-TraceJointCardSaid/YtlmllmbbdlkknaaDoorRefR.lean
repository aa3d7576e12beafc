/- The reference's line, text, who is below, joint text; the same rows: what the printed functions tell, for whatever number of rounds. -/
import Derived.Test.YtlmllmbbdlkknaaDoorPx10
import Derived.Test.YtlmllmbbdlkknaaDoorPx5
import Derived.Test.YtlmllmbbdlkknaaDoorPx9
import Derived.Test.YtlmllmbbdlkknaaDoorDec
import Derived.Test.YtlmllmbbdlkknaaDoorBelowR
namespace Go.Proofs.YtlmllmbbdlkknaaDoor.P
open Go Go.RowKit Go.Proofs.YtlmllmbbdlkknaaDoor Go.Proofs.YtlmllmbbdlkknaaDoorW.PrintWords Go.Proofs.YtlmllmbbdlkknaaDoorW.PrintLast
set_option linter.unusedSimpArgs false
theorem dec_f {x : Int} (h : in64 x = true) : ext_27.f x = some ⟨(itoaF x).toArray⟩ := if_pos h
theorem refline_f (o : S35) (h : okO o = true) : tontineref24_Line.f o.f0 o.f1 o.f2 o.f3 o.f4 o.f5 = some ⟨(lineL o).toArray⟩ := by
  unfold okO at h
  simp only [Bool.and_eq_true] at h
  obtain ⟨⟨⟨⟨h0, h2⟩, h3⟩, h4⟩, h5⟩ := h
  have l0 := itoaF_len o.f0
  have l2 := itoaF_len o.f2
  have l3 := itoaF_len o.f3
  have l4 := itoaF_len o.f4
  have l5 := itoaF_len o.f5
  unfold tontineref24_Line.f lineL
  by_cases c1 : o.f1 = 1
  · rw [if_pos c1, if_pos c1, dec_f h0, Option.bind_some, if_pos (by simp only [ba_size, List.length_append, List.length_cons, List.length_nil]; omega), dec_f h2, Option.bind_some, ba_append, if_pos (by simp only [ba_size, List.length_append, List.length_cons, List.length_nil]; omega), ba_append]
  · rw [if_neg c1, if_neg c1]
    by_cases c2 : o.f1 = 2
    · rw [if_pos c2, if_pos c2, dec_f h0, Option.bind_some, if_pos (by simp only [ba_size, List.length_append, List.length_cons, List.length_nil]; omega), dec_f h2, Option.bind_some, ba_append, if_pos (by simp only [ba_size, List.length_append, List.length_cons, List.length_nil]; omega), ba_append, if_pos (by simp only [ba_size, List.length_append, List.length_cons, List.length_nil]; omega), dec_f h3, Option.bind_some, ba_append, if_pos (by simp only [ba_size, List.length_append, List.length_cons, List.length_nil]; omega), ba_append, if_pos (by simp only [ba_size, List.length_append, List.length_cons, List.length_nil]; omega), dec_f h4, Option.bind_some, ba_append, if_pos (by simp only [ba_size, List.length_append, List.length_cons, List.length_nil]; omega), ba_append, if_pos (by simp only [ba_size, List.length_append, List.length_cons, List.length_nil]; omega), dec_f h5, Option.bind_some, ba_append, if_pos (by simp only [ba_size, List.length_append, List.length_cons, List.length_nil]; omega), ba_append]
    · rw [if_neg c2, if_neg c2]
theorem reftext_l (l : List S35) (hl : l.length ≤ 60) (ok : l.all okO = true) : ∀ (d i k : Nat), i + d = l.length → d < k → tontineref24_Text.l0 k l ⟨(textL (l.take i)).toArray⟩ (i : Int) = some ⟨(textL l).toArray⟩ := by
  intro d
  induction d with
  | zero =>
    intro i k hi hk
    obtain ⟨k, rfl⟩ : ∃ m, k = m + 1 := ⟨k - 1, by omega⟩
    simp only [tontineref24_Text.l0]
    rw [if_neg (by omega), List.take_of_length_le (by omega)]
  | succ d ih =>
    intro i k hi hk
    obtain ⟨k, rfl⟩ : ∃ m, k = m + 1 := ⟨k - 1, by omega⟩
    have hil : i < l.length := by omega
    have hw : wrap64 ((i : Int) + 1) = ((i + 1 : Nat) : Int) := by unfold wrap64; omega
    have hrd : rd_T35 l (i : Int) = l[i] := by simp [rd_T35, hil]
    have ho := List.all_eq_true.1 ok l[i] (List.getElem_mem hil)
    have ht : textL (l.take i) ++ lineL l[i] ++ [10] = textL (l.take (i + 1)) := by
      rw [textL_succ l i hil, hrd, List.append_assoc]
    have hlen := textL_len (l.take (i + 1))
    have hlt := List.length_take_le (i + 1) l
    rw [← ht] at hlen
    simp only [List.length_append, List.length_cons, List.length_nil] at hlen
    simp only [tontineref24_Text.l0]
    rw [if_pos (by omega), if_pos (by omega), hrd, refline_f _ ho]
    simp only [Option.bind_some]
    simp only [ba_append, ba_size, List.length_append]
    have hm : 131 * (l.take (i + 1)).length ≤ 131 * 61 := Nat.mul_le_mul_left 131 (by omega)
    rw [if_pos (by omega), if_pos (by omega), hw, ht]
    exact ih (i + 1) k (by omega) (by omega)
theorem reftext_f (l : List S35) (hl : l.length ≤ 60) (ok : l.all okO = true) (k : Nat) (hk : 60 < k) : tontineref24_Text.f k l = some ⟨(textL l).toArray⟩ := by
  have := reftext_l l hl ok l.length 0 k (by omega) (by omega)
  simpa [tontineref24_Text.f, textL] using this
theorem leq_low (doms : List S46) (la lb : Int) (d : Int) (n : Nat) (hd : d = (n : Int)) : tontineref1_Leq.f (rd_T46 doms d).f0.f0 (rd_T46 doms d).f0.f1 la lb = some (lowB doms la lb n) := by
  subst hd
  unfold tontineref1_Leq.f lowB
  split <;> simp [*]
theorem refbelow_l (a b : Int) (plans : List (List Int)) (doms : List S46) (tr : List (List S35)) (la lb : Int) (h20 : doms.length ≤ 20) : ∀ (m d k : Nat), d + m = min doms.length tr.length → 2 * m + 2 ≤ k →
    tontineref24_Below.l0 k tr ((belowL doms la lb d).map Int.ofNat) (d : Int) a b plans doms la lb = some ((belowL doms la lb (min doms.length tr.length)).map Int.ofNat) := by
  intro m
  induction m with
  | zero =>
    intro d k hd hk
    obtain ⟨k, rfl⟩ : ∃ q, k = q + 2 := ⟨k - 2, by omega⟩
    rw [show min doms.length tr.length = d by omega]
    simp only [tontineref24_Below.l0]
    split
    · rw [decide_eq_false (by omega)]
      simp only [tontineref24_Below.j1]
      rw [if_neg (by decide)]
    · simp only [tontineref24_Below.j1]
      rw [if_neg (by decide)]
  | succ m ih =>
    intro d k hd hk
    obtain ⟨k, rfl⟩ : ∃ q, k = q + 2 := ⟨k - 2, by omega⟩
    have hw : wrap64 ((d : Int) + 1) = ((d + 1 : Nat) : Int) := by unfold wrap64; omega
    have hl := belowL_len doms la lb d
    have h := ih (d + 1) k (by omega) (by omega)
    rw [belowL_succ] at h
    simp only [tontineref24_Below.l0]
    rw [if_pos (by omega), decide_eq_true (by omega)]
    simp only [tontineref24_Below.j1]
    rw [if_pos trivial, if_pos (by omega), if_pos (by omega), leq_low doms la lb _ d rfl, hw]
    simp only [Option.bind_some]
    cases hb : lowB doms la lb d with
    | true =>
      rw [hb] at h
      rw [if_pos rfl, if_pos (by rw [List.length_map]; omega)]
      simpa using h
    | false =>
      rw [hb] at h
      rw [if_neg (by decide)]
      simpa using h
theorem refbelow_f (a b : Int) (plans : List (List Int)) (doms : List S46) (tr : List (List S35)) (la lb : Int) (h20 : doms.length ≤ 20) (k : Nat) (hk : 50 < k) :
    tontineref24_Below.f k a b plans doms tr la lb = some ((belowL doms la lb (min doms.length tr.length)).map Int.ofNat) := by
  have := refbelow_l a b plans doms tr la lb h20 (min doms.length tr.length) 0 k (by omega) (by omega)
  simpa [tontineref24_Below.f, belowL] using this
theorem refjoint_l (tr : List (List S35)) (L : List Nat) (h20 : L.length ≤ 20) (hm : ∀ d ∈ L, d < tr.length ∧ d < 20) (ok : okT tr = true) : ∀ (d i k : Nat), i + d = L.length → d + 61 < k → tontineref24_Joint.l0 k tr ⟨(jointL tr (L.take i)).toArray⟩ (L.map Int.ofNat) (i : Int) = some ⟨(jointL tr L).toArray⟩ := by
  intro d
  induction d with
  | zero =>
    intro i k hi hk
    obtain ⟨k, rfl⟩ : ∃ m, k = m + 1 := ⟨k - 1, by omega⟩
    simp only [tontineref24_Joint.l0]
    rw [if_neg (by rw [List.length_map]; omega), List.take_of_length_le (by omega)]
  | succ d ih =>
    intro i k hi hk
    obtain ⟨k, rfl⟩ : ∃ m, k = m + 1 := ⟨k - 1, by omega⟩
    have hil : i < L.length := by omega
    have hw : wrap64 ((i : Int) + 1) = ((i + 1 : Nat) : Int) := by unfold wrap64; omega
    have hrd : rd (L.map Int.ofNat) (i : Int) = ((L[i] : Nat) : Int) := by simp [rd, hil]
    obtain ⟨g1, g2⟩ := hm _ (List.getElem_mem hil)
    obtain ⟨o1, o2⟩ := okT_at ok g1
    have ht : jointL tr (L.take i) ++ [100, 111, 109, 97, 105, 110, 32] ++ itoaF ((L[i] : Nat) : Int) ++ [10] ++ textL (rd_L4 tr ((L[i] : Nat) : Int)) = jointL tr (L.take (i + 1)) := by
      rw [jointL_succ tr L i hil]
      simp [partL]
    have hlen := jointL_len tr (L.take (i + 1)) (fun x hx => (okT_at ok (hm x (List.mem_of_mem_take hx)).1).1)
    have hlt := List.length_take_le (i + 1) L
    have hmul : 8000 * (L.take (i + 1)).length ≤ 8000 * 21 := Nat.mul_le_mul_left 8000 (by omega)
    rw [← ht] at hlen
    simp only [List.length_append, List.length_cons, List.length_nil] at hlen
    have hin : in64 ((L[i] : Nat) : Int) = true := in64_iff.2 (by omega)
    simp only [tontineref24_Joint.l0]
    rw [if_pos (by rw [List.length_map]; omega), hrd, dec_f hin, reftext_f _ o1 o2 k (by omega)]
    simp only [Option.bind_some]
    simp only [ba_append, ba_size, List.length_append, List.length_cons, List.length_nil]
    rw [if_pos (by omega), if_pos (by omega), if_pos (by omega), if_pos (by omega), if_pos (by omega), if_pos (by omega), if_pos (by omega), hw, ht]
    exact ih (i + 1) k (by omega) (by omega)
theorem refjoint_f (a b : Int) (plans : List (List Int)) (doms : List S46) (tr : List (List S35)) (la lb : Int) (h20 : doms.length ≤ 20) (ok : okT tr = true) (k : Nat) (hk : 100 < k) :
    tontineref24_Joint.f k a b plans doms tr la lb = some ⟨(jointL tr (belowL doms la lb (min doms.length tr.length))).toArray⟩ := by
  unfold tontineref24_Joint.f
  rw [refbelow_f a b plans doms tr la lb h20 k (by omega), Option.bind_some]
  have hl := belowL_len doms la lb (min doms.length tr.length)
  have := refjoint_l tr (belowL doms la lb (min doms.length tr.length)) (by omega) (fun d hd => by
    have := List.mem_range.1 (List.mem_filter.1 hd).1
    omega) ok _ 0 k (Nat.zero_add _) (by omega)
  simpa [jointL] using this
theorem sameobs_l (x y : List S35) (n : Nat) (hx : x.length = n) (hy : y.length = n) (hn : n ≤ 60) : ∀ (d i k : Nat), i + d = n → d < k → tontineref21_SameObs.l0 k x y (i : Int) = some ((x.drop i).map oRow == (y.drop i).map oRow) := by
  intro d
  induction d with
  | zero =>
    intro i k hi hk
    obtain ⟨k, rfl⟩ : ∃ m, k = m + 1 := ⟨k - 1, by omega⟩
    simp only [tontineref21_SameObs.l0]
    rw [if_neg (by omega), List.drop_of_length_le (by omega), List.drop_of_length_le (by omega)]
    rfl
  | succ d ih =>
    intro i k hi hk
    obtain ⟨k, rfl⟩ : ∃ m, k = m + 1 := ⟨k - 1, by omega⟩
    have h1 : i < x.length := by omega
    have h2 : i < y.length := by omega
    have hw : wrap64 ((i : Int) + 1) = ((i + 1 : Nat) : Int) := by unfold wrap64; omega
    have e1 : rd_T35 x (i : Int) = x[i] := by simp [rd_T35, h1]
    have e2 : rd_T35 y (i : Int) = y[i] := by simp [rd_T35, h2]
    have e := oRow_eq x[i] y[i]
    simp only [tontineref21_SameObs.l0]
    rw [if_pos (by omega), if_pos (by omega), if_pos (by omega), e1, e2, hw, ih (i + 1) k (by omega) (by omega), List.drop_eq_getElem_cons h1, List.drop_eq_getElem_cons h2]
    simp only [List.map_cons, List.cons_beq_cons, e]
    split
    · rename_i h
      rw [h]
      rfl
    · rename_i h
      rw [eq_false_of_ne_true h]
      simp
theorem sameobs_f (a b : List S35) (ha : a.length ≤ 60) (k : Nat) (hk : 60 < k) : tontineref21_SameObs.f k a b = some (sameO a b) := by
  unfold tontineref21_SameObs.f sameO
  split
  · rename_i h
    have := sameobs_l a b a.length rfl (by omega) ha a.length 0 k (by omega) (by omega)
    simpa using this
  · rename_i h
    congr 1
    symm
    rw [beq_eq_false_iff_ne]
    intro e
    have e' := congrArg List.length e
    rw [List.length_map, List.length_map] at e'
    exact h (congrArg Int.ofNat e')
theorem sameints_l (x : List Int) (hn : x.length ≤ 60) : ∀ (d i k : Nat), i + d = x.length → d < k → tontineref1_SameInts.l0 k x x (i : Int) = some true := by
  intro d
  induction d with
  | zero =>
    intro i k hi hk
    obtain ⟨k, rfl⟩ : ∃ m, k = m + 1 := ⟨k - 1, by omega⟩
    simp only [tontineref1_SameInts.l0]
    rw [if_neg (by omega)]
  | succ d ih =>
    intro i k hi hk
    obtain ⟨k, rfl⟩ : ∃ m, k = m + 1 := ⟨k - 1, by omega⟩
    have hw : wrap64 ((i : Int) + 1) = ((i + 1 : Nat) : Int) := by unfold wrap64; omega
    simp only [tontineref1_SameInts.l0]
    rw [if_pos (by omega), if_pos (by omega), if_pos (by omega), if_pos trivial, hw]
    exact ih (i + 1) k (by omega) (by omega)
theorem sameints_f (x : List Int) (hn : x.length ≤ 60) (k : Nat) (hk : 60 < k) : tontineref1_SameInts.f k x x = some true := by
  unfold tontineref1_SameInts.f
  rw [if_pos rfl]
  exact sameints_l x hn x.length 0 k (by omega) (by omega)
end Go.Proofs.YtlmllmbbdlkknaaDoor.P
