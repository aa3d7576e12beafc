/- Whether configurations are alike, as the program itself tells it (printed functions). -/
import Derived.Test.YtjgdcifbhmjinaaDoorPx6
import Derived.Test.YtjgdcifbhmjinaaDoorPx7
import Derived.Test.YtjgdcifbhmjinaaDoorConfC
import Derived.Test.YtjgdcifbhmjinaaDoorRSame
namespace Go.Proofs.YtjgdcifbhmjinaaDoor.ConfE
open Go Go.RowKit Go.Proofs.YtjgdcifbhmjinaaDoor Go.Proofs.YtjgdcifbhmjinaaDoor.P Go.Proofs.YtjgdcifbhmjinaaDoor.Lab Go.Proofs.YtjgdcifbhmjinaaDoor.ConfR Go.Proofs.YtjgdcifbhmjinaaDoor.ConfC Go.Proofs.YtjgdcifbhmjinaaDoorW.PrintWords Go.Proofs.YtjgdcifbhmjinaaDoorW.PrintLast Go.Proofs.YtjgdcifbhmjinaaDoorW.PrintMore
set_option linter.unusedVariables false
theorem equal_l0 (l l' : List Int) (hl : l.length = l'.length) (h1 : l.length ≤ 1000) : ∀ (m i : Nat), i + m = l.length → l.take i = l'.take i → Ev (fun k => slices_Equal_int_int.l0 k l l' (l.length : Int) (i : Int)) (decide (l = l')) := by
  intro m
  induction m with
  | zero =>
    intro i hi ht
    rw [List.take_of_length_le (by omega), List.take_of_length_le (by omega)] at ht
    rw [decide_eq_true ht]
    refine Ev_one (fun k => ?_)
    simp only [slices_Equal_int_int.l0]
    rw [if_neg (by omega)]
  | succ m ih =>
    intro i hi ht
    have hil : i < l.length := by omega
    have hil' : i < l'.length := by omega
    by_cases he : l[i] = l'[i]
    · refine Ev_step (fun k => ?_) (ih (i + 1) (by omega) (take_eq i hil hil' ht he))
      simp only [slices_Equal_int_int.l0]
      rw [if_pos (by omega), if_pos (by omega), if_pos (by omega), if_pos (by omega), rd_nat l i hil, rd_nat l' i hil', if_pos he, wrap_succ hil (by omega)]
    · rw [decide_eq_false (p := l = l') (fun h => by subst h; exact he rfl)]
      refine Ev_one (fun k => ?_)
      simp only [slices_Equal_int_int.l0]
      rw [if_pos (by omega), if_pos (by omega), if_pos (by omega), if_pos (by omega), rd_nat l i hil, rd_nat l' i hil', if_neg he]
theorem equal_f (l l' : List Int) (h1 : l.length ≤ 1000) : Ev (fun k => slices_Equal_int_int.f k l l') (decide (l = l')) := by
  by_cases h : l.length = l'.length
  · exact Ev_eq (fun k => by unfold slices_Equal_int_int.f; rw [if_pos (by omega)]; rfl) (equal_l0 l l' h h1 l.length 0 (by omega) rfl)
  · rw [decide_eq_false (p := l = l') (fun e => by rw [e] at h; exact h rfl)]
    exact Ev_is (fun k => by unfold slices_Equal_int_int.f; rw [if_neg (by omega)])
theorem equalF_l0 (l l' : List (List Int)) (hl : l.length = l'.length) (h1 : l.length ≤ 1000) (hr : ∀ r ∈ l, r.length ≤ 1000) : ∀ (m i : Nat), i + m = l.length → l.take i = l'.take i → Ev (fun k => slices_EqualFunc_int_int_int_int.l0 k l' l (l.length : Int) (i : Int)) (decide (l = l')) := by
  intro m
  induction m with
  | zero =>
    intro i hi ht
    rw [List.take_of_length_le (by omega), List.take_of_length_le (by omega)] at ht
    rw [decide_eq_true ht]
    refine Ev_one (fun k => ?_)
    simp only [slices_EqualFunc_int_int_int_int.l0]
    rw [if_neg (by omega)]
  | succ m ih =>
    intro i hi ht
    have hil : i < l.length := by omega
    have hil' : i < l'.length := by omega
    refine Ev_step (g := fun k => (slices_Equal_int_int.f k l[i] l'[i]).bind fun t => (if t = true then (slices_EqualFunc_int_int_int_int.l0 k l' l (l.length : Int) ((i + 1 : Nat) : Int)) else (some false))) (fun k => ?_) (Ev_bind (equal_f _ _ (hr _ (List.getElem_mem hil))) ?_)
    · simp only [slices_EqualFunc_int_int_int_int.l0]
      rw [if_pos (by omega), if_pos (by omega), if_pos (by omega), if_pos (by omega), rdL_nat l i hil, rdL_nat l' i hil', wrap_succ hil (by omega)]
    · by_cases he : l[i] = l'[i]
      · rw [decide_eq_true he]
        exact Ev_eq (fun k => if_pos rfl) (ih (i + 1) (by omega) (take_eq i hil hil' ht he))
      · rw [decide_eq_false he, decide_eq_false (p := l = l') (fun h => by subst h; exact he rfl)]
        exact Ev_is (fun k => if_neg (by decide))
theorem equalF_f (l l' : List (List Int)) (h1 : l.length ≤ 1000) (hr : ∀ r ∈ l, r.length ≤ 1000) : Ev (fun k => slices_EqualFunc_int_int_int_int.f k l l' ()) (decide (l = l')) := by
  by_cases h : l.length = l'.length
  · exact Ev_eq (fun k => by unfold slices_EqualFunc_int_int_int_int.f; rw [if_pos (by omega)]; rfl) (equalF_l0 l l' h h1 hr l.length 0 (by omega) rfl)
  · rw [decide_eq_false (p := l = l') (fun e => by rw [e] at h; exact h rfl)]
    exact Ev_is (fun k => by unfold slices_EqualFunc_int_int_int_int.f; rw [if_neg (by omega)])
theorem domain_f (x y : S40) (h1 : x.f1.length ≤ 1000) (hr : ∀ r ∈ x.f1, r.length ≤ 1000) (h2 : x.f2.length ≤ 1000) :
    Ev (fun k => conf_sameDomain.f k x.f0.f0 x.f0.f1 x.f1 x.f2 x.f3 x.f4 x.f5 x.f6 x.f7 x.f8 y.f0.f0 y.f0.f1 y.f1 y.f2 y.f3 y.f4 y.f5 y.f6 y.f7 y.f8) (domEq x y) := by
  unfold conf_sameDomain.f domEq
  cases (x.f0.f0 == y.f0.f0 && x.f0.f1 == y.f0.f1) with
  | false => exact Ev_is (fun k => if_neg (by decide))
  | true =>
    rw [Bool.true_and]
    refine Ev_eq (fun k => if_pos rfl) (Ev_bind (equalF_f x.f1 y.f1 h1 hr) ?_)
    cases decide (x.f1 = y.f1) with
    | false => exact Ev_is (fun k => if_neg (by decide))
    | true =>
      rw [Bool.true_and]
      refine Ev_eq (fun k => if_pos rfl) (Ev_bind (equal_f x.f2 y.f2 h2) ?_)
      cases decide (x.f2 = y.f2) with
      | false => exact Ev_is (fun k => if_neg (by decide))
      | true =>
        rw [Bool.true_and]
        refine Ev_is (fun k => ?_)
        rw [if_pos rfl]
        by_cases c3 : x.f3 = y.f3
        · rw [if_pos c3, beq_iff_eq.2 c3, Bool.true_and]
          by_cases c4 : x.f4 = y.f4
          · rw [if_pos c4, beq_iff_eq.2 c4, Bool.true_and]
            by_cases c5 : x.f5 = y.f5
            · rw [if_pos c5, beq_iff_eq.2 c5, Bool.true_and]
              by_cases c6 : x.f6 = y.f6
              · rw [if_pos c6, beq_iff_eq.2 c6, Bool.true_and]
                by_cases c7 : x.f7 = y.f7
                · rw [if_pos c7, beq_iff_eq.2 c7, Bool.true_and]
                · rw [if_neg c7, beq_eq_false_iff_ne.2 c7, Bool.false_and]
              · rw [if_neg c6, beq_eq_false_iff_ne.2 c6, Bool.false_and]
            · rw [if_neg c5, beq_eq_false_iff_ne.2 c5, Bool.false_and]
          · rw [if_neg c4, beq_eq_false_iff_ne.2 c4, Bool.false_and]
        · rw [if_neg c3, beq_eq_false_iff_ne.2 c3, Bool.false_and]
theorem domains_f (l l' : List S40) (h1 : l.length ≤ 1000) (hr : ∀ d ∈ l, d.f1.length ≤ 1000 ∧ d.f2.length ≤ 1000 ∧ ∀ r ∈ d.f1, r.length ≤ 1000) : Ev (fun k => api_Domain.f k l l' ()) (domsEq l l') := by
  by_cases h : l.length = l'.length
  · have e : domsEq l l' = if (List.range' 0 l.length).all (fun j => domEq (rd_T40 l (j : Int)) (rd_T40 l' (j : Int))) = true then true else false := by
      rw [domsEq_range l l' h, List.range_eq_range']
      cases (List.range' 0 l.length).all (fun j => domEq (rd_T40 l (j : Int)) (rd_T40 l' (j : Int))) <;> rfl
    rw [e]
    refine Ev_eq (g := fun k => api_Domain.l0 k l' l (l.length : Int) 0) (fun k => by unfold api_Domain.f; rw [if_pos (by omega)]) ?_
    have one : ∀ i (hi : i < l.length), Ev (fun k => conf_sameDomain.f k (rd_T40 l (i : Int)).f0.f0 (rd_T40 l (i : Int)).f0.f1 (rd_T40 l (i : Int)).f1 (rd_T40 l (i : Int)).f2 (rd_T40 l (i : Int)).f3 (rd_T40 l (i : Int)).f4 (rd_T40 l (i : Int)).f5 (rd_T40 l (i : Int)).f6 (rd_T40 l (i : Int)).f7 (rd_T40 l (i : Int)).f8
        (rd_T40 l' (i : Int)).f0.f0 (rd_T40 l' (i : Int)).f0.f1 (rd_T40 l' (i : Int)).f1 (rd_T40 l' (i : Int)).f2 (rd_T40 l' (i : Int)).f3 (rd_T40 l' (i : Int)).f4 (rd_T40 l' (i : Int)).f5 (rd_T40 l' (i : Int)).f6 (rd_T40 l' (i : Int)).f7 (rd_T40 l' (i : Int)).f8) (domEq (rd_T40 l (i : Int)) (rd_T40 l' (i : Int))) := fun i hi => by
      have hm := hr (rd_T40 l (i : Int)) (by rw [rdD_nat l i hi]; exact List.getElem_mem hi)
      exact domain_f _ _ hm.1 hm.2.2 hm.2.1
    refine Ev_all (g := fun k i => api_Domain.l0 k l' l (l.length : Int) i) l.length _ false true ?_ ?_ ?_
    · intro i hi hq r hE
      have h3 := one i hi
      rw [hq] at h3
      refine Ev_step (fun k => ?_) (Ev_bind (g := fun k t => if t = true then (api_Domain.l0 k l' l (l.length : Int) ((i + 1 : Nat) : Int)) else (some false)) h3 (Ev_eq (fun k => if_pos rfl) hE))
      simp only [api_Domain.l0]
      rw [if_pos (by omega), if_pos (by omega), if_pos (by omega), if_pos (by omega), wrap_succ hi (by omega)]
    · intro i hi hq
      have h3 := one i hi
      rw [hq] at h3
      refine Ev_step (fun k => ?_) (Ev_bind (g := fun k t => if t = true then (api_Domain.l0 k l' l (l.length : Int) ((i + 1 : Nat) : Int)) else (some false)) h3 (Ev_is (fun k => if_neg (by decide))))
      simp only [api_Domain.l0]
      rw [if_pos (by omega), if_pos (by omega), if_pos (by omega), if_pos (by omega), wrap_succ hi (by omega)]
    · refine Ev_one (fun k => ?_)
      simp only [api_Domain.l0]
      rw [if_neg (by omega)]
  · rw [domsEq_len l l' h]
    exact Ev_is (fun k => by unfold api_Domain.f; rw [if_neg (by omega)])
theorem csame_f (a b : Int) (p : List (List Int)) (d : List S40) (a' b' : Int) (p' : List (List Int)) (d' : List S40) (hs : smallC p d = true) : Ev (fun k => conf_Same.f k a b p d a' b' p' d') (confEq a b p d a' b' p' d') := by
  simp only [smallC, Bool.and_eq_true, decide_eq_true_eq, List.all_eq_true] at hs
  obtain ⟨⟨⟨s1, s2⟩, s3⟩, s4⟩ := hs
  unfold conf_Same.f confEq
  by_cases c1 : a = a'
  · rw [beq_iff_eq.2 c1, Bool.true_and]
    refine Ev_eq (fun k => if_pos c1) ?_
    by_cases c2 : b = b'
    · rw [beq_iff_eq.2 c2, Bool.true_and]
      refine Ev_eq (fun k => if_pos c2) (Ev_bind (equalF_f p p' s1 s2) ?_)
      cases decide (p = p') with
      | false => exact Ev_is (fun k => if_neg (by decide))
      | true =>
        rw [Bool.true_and]
        exact Ev_eq (fun k => if_pos rfl) (Ev_bind (domains_f d d' s3 (fun x hx => by have := s4 x hx; exact ⟨this.1.1, this.1.2, this.2⟩)) (Ev_is (fun k => rfl)))
    · rw [beq_eq_false_iff_ne.2 c2, Bool.false_and]
      exact Ev_is (fun k => if_neg c2)
  · rw [beq_eq_false_iff_ne.2 c1, Bool.false_and]
    exact Ev_is (fun k => if_neg c1)
theorem domEq_refl (x : S40) : domEq x x = true := by
  unfold domEq
  simp
theorem domsEq_refl : ∀ (l : List S40), domsEq l l = true
  | [] => rfl
  | x :: l => by rw [domsEq, domEq_refl, domsEq_refl l]; rfl
theorem confEq_refl (a b : Int) (p : List (List Int)) (d : List S40) : confEq a b p d a b p d = true := by
  unfold confEq
  rw [domsEq_refl]
  simp
/-- What is not wide fits. -/
theorem fits_of (plans : List (List Int)) (doms : List S40) (h : wideB plans doms = false) : Fits plans doms ∧ smallC plans doms = true := by
  simp only [wideB, Bool.or_eq_false_iff, decide_eq_false_iff_not, List.any_eq_false, Bool.or_eq_true, decide_eq_true_eq, not_or, List.any_eq_true, not_exists, not_and] at h
  obtain ⟨⟨⟨h1, h2⟩, h3⟩, h4⟩ := h
  refine ⟨⟨by omega, fun p hp => by have := h3 p hp; omega, by omega, fun d hd => ?_⟩, ?_⟩
  · obtain ⟨⟨a1, a2⟩, a3⟩ := h4 d hd
    exact ⟨by omega, by omega, fun r hr => by have := a3 r hr; omega⟩
  · simp only [smallC, Bool.and_eq_true, decide_eq_true_eq, List.all_eq_true]
    refine ⟨⟨⟨by omega, fun p hp => by have := h3 p hp; omega⟩, by omega⟩, fun d hd => ?_⟩
    obtain ⟨⟨a1, a2⟩, a3⟩ := h4 d hd
    exact ⟨⟨by omega, by omega⟩, fun r hr => by have := a3 r hr; omega⟩
end Go.Proofs.YtjgdcifbhmjinaaDoor.ConfE
