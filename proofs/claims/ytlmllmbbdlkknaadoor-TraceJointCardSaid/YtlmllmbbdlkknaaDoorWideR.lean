/- When a configuration is wider than is looked at (printed function), for every configuration whose rows fit into memory. -/
import Derived.Test.YtlmllmbbdlkknaaDoorPx8
import Derived.Test.YtlmllmbbdlkknaaDoorRd
namespace Go.Proofs.YtlmllmbbdlkknaaDoor.WideR
open Go Go.RowKit Go.Proofs.YtlmllmbbdlkknaaDoor Go.Proofs.YtlmllmbbdlkknaaDoor.P Go.Proofs.YtlmllmbbdlkknaaDoorW.PrintWords Go.Proofs.YtlmllmbbdlkknaaDoorW.PrintLast Go.Proofs.YtlmllmbbdlkknaaDoorW.PrintMore

theorem wrap_in {n : Int} (h0 : -9223372036854775808 ≤ n) (h1 : n ≤ 9223372036854775807) : wrap64 n = n := by
  unfold wrap64; omega
set_option linter.unusedVariables false
/-! ### rounds -/
theorem Ev_one {α : Type} {f : Nat → Option α} {r : α} (h : ∀ k, f (k + 1) = some r) : Ev f r := ⟨1, fun k hk => by obtain ⟨m, rfl⟩ : ∃ m, k = m + 1 := ⟨k - 1, by omega⟩; exact h m⟩
theorem Ev_const {α : Type} (x : Option α) (r : α) (h : x = some r) : Ev (fun _ => x) r := ⟨0, fun _ _ => h⟩
/-- A loop over places: while p holds on it goes; where it does not it ends in e i; at the end in d. -/
theorem Ev_loop {α : Type} {g : Nat → Int → Option α} (n : Nat) (p : Nat → Bool) (e : Nat → α) (d : α)
    (step : ∀ i, i < n → p i = true → ∀ r, Ev (fun k => g k ((i + 1 : Nat) : Int)) r → Ev (fun k => g k (i : Int)) r)
    (stop : ∀ i, i < n → p i = false → Ev (fun k => g k (i : Int)) (e i)) (fin : Ev (fun k => g k (n : Int)) d) :
    ∀ m i, i + m = n → Ev (fun k => g k (i : Int)) (match (List.range' i m).find? (fun j => !p j) with | some j => e j | none => d) := by
  intro m
  induction m with
  | zero =>
    intro i hi
    obtain rfl : i = n := (by omega)
    simpa using fin
  | succ m ih =>
    intro i hi
    rw [List.range'_succ, List.find?_cons]
    cases hp : p i with
    | true => simpa [hp] using step i (by omega) hp _ (ih (i + 1) (by omega))
    | false => simpa [hp] using stop i (by omega) hp
theorem find_all {m i : Nat} {p : Nat → Bool} {α : Type} (e d : α) : (match (List.range' i m).find? (fun j => !p j) with | some _ => e | none => d) = if (List.range' i m).all p = true then d else e := by
  cases h : (List.range' i m).find? (fun j => !p j) with
  | none =>
    rw [if_pos]
    rw [List.find?_eq_none] at h
    exact List.all_eq_true.2 (fun x hx => by have := h x hx; simpa using this)
  | some j =>
    have h1 := List.find?_some h
    have h2 := List.mem_of_find?_eq_some h
    rw [if_neg]
    intro ha
    have := List.all_eq_true.1 ha j h2
    rw [this] at h1
    cases h1
/-- The same where all ends are alike. -/
theorem Ev_all {α : Type} {g : Nat → Int → Option α} (n : Nat) (p : Nat → Bool) (e d : α)
    (step : ∀ i, i < n → p i = true → ∀ r, Ev (fun k => g k ((i + 1 : Nat) : Int)) r → Ev (fun k => g k (i : Int)) r)
    (stop : ∀ i, i < n → p i = false → Ev (fun k => g k (i : Int)) e) (fin : Ev (fun k => g k (n : Int)) d) :
    Ev (fun k => g k 0) (if (List.range' 0 n).all p = true then d else e) := by
  rw [← find_all]
  exact Ev_loop n p (fun _ => e) d step stop fin n 0 (by omega)
theorem range_all {α : Type} (l : List α) (q : α → Bool) (p : Nat → Bool) (h : ∀ i x, l[i]? = some x → p i = q x) : (List.range' 0 l.length).all p = l.all q := by
  rw [Bool.eq_iff_iff, List.all_eq_true, List.all_eq_true]
  constructor
  · intro hp x hx
    obtain ⟨i, hi, rfl⟩ := List.getElem_of_mem hx
    rw [← h i _ (List.getElem?_eq_getElem hi)]
    exact hp i (by simp [List.mem_range']; omega)
  · intro hq i hi
    have hi' : i < l.length := by simp [List.mem_range'] at hi; omega
    rw [h i _ (List.getElem?_eq_getElem hi')]
    exact hq _ (List.getElem_mem hi')
theorem rd_nat (l : List Int) (i : Nat) (h : i < l.length) : rd l (i : Int) = l[i] := by simp [rd, List.getD_eq_getElem?_getD, List.getElem?_eq_getElem h]
theorem rdL_nat (l : List (List Int)) (i : Nat) (h : i < l.length) : rd_L8 l (i : Int) = l[i] := by simp [rd_L8, List.getD_eq_getElem?_getD, List.getElem?_eq_getElem h]
theorem rdD_nat (l : List S46) (i : Nat) (h : i < l.length) : rd_T46 l (i : Int) = l[i] := by simp [rd_T46, List.getD_eq_getElem?_getD, List.getElem?_eq_getElem h]
theorem wrap_succ {i n : Nat} (h : i < n) (hn : n ≤ 9223372036854775807) : wrap64 ((i : Int) + 1) = ((i + 1 : Nat) : Int) := by rw [wrap_in (by omega) (by omega)]; omega

/-! ### wide -/
def wideB (plans : List (List Int)) (doms : List S46) : Bool :=
  decide (doms.length > 10) || decide (plans.length > 10) || plans.any (fun p => decide (p.length > 20)) ||
    doms.any (fun d => decide (d.f1.length > 10) || decide (d.f2.length > 10) || d.f1.any (fun r => decide (r.length > 20)))
theorem all_not {α : Type} (l : List α) (p : α → Bool) : (if (l.all fun x => !p x) = true then false else true) = l.any p := by
  induction l with
  | nil => rfl
  | cons x l ih => cases h : p x <;> simp [h] at ih ⊢; simpa using ih
theorem wide_f (a b : Int) (plans : List (List Int)) (doms : List S46) (hp : plans.length ≤ 9223372036854775807) (hd : doms.length ≤ 9223372036854775807)
    (hr : ∀ d ∈ doms, d.f1.length ≤ 9223372036854775807) : Ev (fun k => tontinehelp_WideConf.f k a b plans doms) (wideB plans doms) := by
  have h1 : Ev (fun k => tontinehelp_WideConf.l1 k 0 a b plans doms) (doms.any (fun d => decide (d.f1.length > 10) || decide (d.f2.length > 10) || d.f1.any (fun r => decide (r.length > 20)))) := by
    rw [← all_not, ← range_all doms (fun d => !(decide (d.f1.length > 10) || decide (d.f2.length > 10) || d.f1.any (fun r => decide (r.length > 20)))) (fun i => match doms[i]? with | some d => !(decide (d.f1.length > 10) || decide (d.f2.length > 10) || d.f1.any (fun r => decide (r.length > 20))) | none => true) (fun i x hx => by rw [hx])]
    have key : ∀ i (hi : i < doms.length) (r : Bool), (¬ (decide (doms[i].f1.length > 10) || decide (doms[i].f2.length > 10)) = true →
        Ev (fun k => tontinehelp_WideConf.l2 k (i : Int) 0 a b plans doms) r) → ((decide (doms[i].f1.length > 10) || decide (doms[i].f2.length > 10)) = true → r = true) →
        Ev (fun k => tontinehelp_WideConf.l1 k (i : Int) a b plans doms) r := by
      intro i hi r h2 h3
      refine Ev.step (f := fun k => if (((rd_T46 doms (i : Int)).f1).length : Int) > 10 then (tontinehelp_WideConf.j3 k (i : Int) true a b plans doms) else (tontinehelp_WideConf.j3 k (i : Int) (decide ((((rd_T46 doms (i : Int)).f2).length : Int) > 10)) a b plans doms)) (fun k => by
        simp only [tontinehelp_WideConf.l1]; rw [if_pos (show (i : Int) < (doms.length : Int) by omega), if_pos (show (0 : Int) ≤ (i : Int) by omega)]) ?_
      rw [rdD_nat doms i hi]
      by_cases c1 : doms[i].f1.length > 10
      · simp only [if_pos (show ((doms[i].f1.length : Int)) > 10 by omega)]
        rw [h3 (by simp [c1])]
        exact Ev_one (fun k => by simp only [tontinehelp_WideConf.j3]; rfl)
      · simp only [if_neg (show ¬ ((doms[i].f1.length : Int)) > 10 by omega)]
        by_cases c2 : doms[i].f2.length > 10
        · simp only [decide_eq_true (show ((doms[i].f2.length : Int)) > 10 by omega)]
          rw [h3 (by simp [c2])]
          exact Ev_one (fun k => by simp only [tontinehelp_WideConf.j3]; rfl)
        · simp only [decide_eq_false (show ¬ ((doms[i].f2.length : Int)) > 10 by omega)]
          exact Ev.step (f := fun k => tontinehelp_WideConf.l2 k (i : Int) 0 a b plans doms) (fun k => by simp only [tontinehelp_WideConf.j3]; rfl) (h2 (by simp [c1, c2]))
    have inner : ∀ i (hi : i < doms.length) (d : Bool), Ev (fun k => tontinehelp_WideConf.l1 k ((i + 1 : Nat) : Int) a b plans doms) d →
        Ev (fun k => tontinehelp_WideConf.l2 k (i : Int) 0 a b plans doms) (if (doms[i].f1.all (fun r => !decide (r.length > 20))) = true then d else true) := by
      intro i hi d hn
      have hri := hr doms[i] (List.getElem_mem hi)
      rw [← range_all doms[i].f1 (fun r => !decide (r.length > 20)) (fun j => match doms[i].f1[j]? with | some r => !decide (r.length > 20) | none => true) (fun j x hx => by rw [hx])]
      refine Ev_all (g := fun k x => tontinehelp_WideConf.l2 k (i : Int) x a b plans doms) doms[i].f1.length _ true d ?_ ?_ ?_
      · intro j hj hp r hE
        refine Ev.step (fun k => ?_) hE
        simp only [tontinehelp_WideConf.l2]
        simp only [List.getElem?_eq_getElem hj] at hp
        rw [if_pos (by omega), if_pos (by omega), rdD_nat doms i hi, if_pos (by omega), if_pos (by omega), rdL_nat _ j hj, if_neg (by simp at hp; omega), wrap_succ hj hri]
      · intro j hj hp
        refine Ev_one (fun k => ?_)
        simp only [tontinehelp_WideConf.l2]
        simp only [List.getElem?_eq_getElem hj] at hp
        rw [if_pos (by omega), if_pos (by omega), rdD_nat doms i hi, if_pos (by omega), if_pos (by omega), rdL_nat _ j hj, if_pos (by simp at hp; omega)]
      · refine Ev.step (fun k => ?_) hn
        simp only [tontinehelp_WideConf.l2]
        rw [if_pos (by omega), if_pos (by omega), rdD_nat doms i hi, if_neg (by omega), wrap_succ hi hd]
    refine Ev_all (g := fun k x => tontinehelp_WideConf.l1 k x a b plans doms) doms.length _ true false ?_ ?_ ?_
    · intro i hi hp r hE
      simp only [List.getElem?_eq_getElem hi] at hp
      rw [Bool.not_eq_true', Bool.or_eq_false_iff] at hp
      refine key i hi r (fun _ => ?_) (fun h => by rw [hp.1] at h; cases h)
      have h := inner i hi r hE
      have e : (doms[i].f1.all (fun r => !decide (r.length > 20))) = true := by
        have := hp.2
        rw [List.any_eq_false] at this
        exact List.all_eq_true.2 (fun x hx => by have := this x hx; simpa using this)
      rw [if_pos e] at h
      exact h
    · intro i hi hp
      simp only [List.getElem?_eq_getElem hi] at hp
      rw [Bool.not_eq_false', Bool.or_eq_true] at hp
      refine key i hi true (fun hc => ?_) (fun _ => rfl)
      rcases hp with hp | hp
      · exact absurd hp hc
      · -- one of the routes is too long, whatever comes after
        have hri := hr doms[i] (List.getElem_mem hi)
        have hlp := Ev_loop (g := fun k x => tontinehelp_WideConf.l2 k (i : Int) x a b plans doms) doms[i].f1.length (fun j => match doms[i].f1[j]? with | some r => !decide (r.length > 20) | none => true) (fun _ => true) true
        obtain ⟨x, hx, hx2⟩ := List.any_eq_true.1 hp
        obtain ⟨j0, hj0, rfl⟩ := List.getElem_of_mem hx
        -- up to the first such place
        have go : ∀ m j, j + m = j0 → Ev (fun k => tontinehelp_WideConf.l2 k (i : Int) (j : Int) a b plans doms) true := by
          intro m
          induction m with
          | zero =>
            intro j hj
            obtain rfl : j = j0 := by omega
            refine Ev_one (fun k => ?_)
            simp only [tontinehelp_WideConf.l2]
            rw [if_pos (by omega), if_pos (by omega), rdD_nat doms i hi, if_pos (by omega), if_pos (by omega), rdL_nat _ j hj0, if_pos (by simp at hx2; omega)]
          | succ m ih =>
            intro j hj
            have hj' : j < doms[i].f1.length := by omega
            by_cases c : doms[i].f1[j].length > 20
            · refine Ev_one (fun k => ?_)
              simp only [tontinehelp_WideConf.l2]
              rw [if_pos (by omega), if_pos (by omega), rdD_nat doms i hi, if_pos (by omega), if_pos (by omega), rdL_nat _ j hj', if_pos (by omega)]
            · refine Ev.step (fun k => ?_) (ih (j + 1) (by omega))
              simp only [tontinehelp_WideConf.l2]
              rw [if_pos (by omega), if_pos (by omega), rdD_nat doms i hi, if_pos (by omega), if_pos (by omega), rdL_nat _ j hj', if_neg (by omega), wrap_succ hj' hri]
        exact go j0 0 (by omega)
    · refine Ev_one (fun k => ?_)
      simp only [tontinehelp_WideConf.l1]
      rw [if_neg (by omega)]
  have h0 : Ev (fun k => tontinehelp_WideConf.l0 k 0 a b plans doms) (plans.any (fun p => decide (p.length > 20)) || doms.any (fun d => decide (d.f1.length > 10) || decide (d.f2.length > 10) || d.f1.any (fun r => decide (r.length > 20)))) := by
    have e : (plans.any (fun p => decide (p.length > 20)) || doms.any (fun d => decide (d.f1.length > 10) || decide (d.f2.length > 10) || d.f1.any (fun r => decide (r.length > 20)))) =
        if (List.range' 0 plans.length).all (fun i => match plans[i]? with | some p => !decide (p.length > 20) | none => true) = true then doms.any (fun d => decide (d.f1.length > 10) || decide (d.f2.length > 10) || d.f1.any (fun r => decide (r.length > 20))) else true := by
      rw [range_all plans (fun p => !decide (p.length > 20)) _ (fun i x hx => by rw [hx])]
      cases hh : plans.any (fun p => decide (p.length > 20)) with
      | true =>
        rw [if_neg, Bool.true_or]
        intro hc
        obtain ⟨x, hx, hx2⟩ := List.any_eq_true.1 hh
        have := List.all_eq_true.1 hc x hx
        rw [hx2] at this
        cases this
      | false =>
        rw [if_pos, Bool.false_or]
        rw [List.any_eq_false] at hh
        exact List.all_eq_true.2 (fun x hx => by have := hh x hx; simpa using this)
    rw [e]
    refine Ev_all (g := fun k x => tontinehelp_WideConf.l0 k x a b plans doms) plans.length _ true _ ?_ ?_ ?_
    · intro j hj hq r hE
      refine Ev.step (fun k => ?_) hE
      simp only [List.getElem?_eq_getElem hj] at hq
      simp only [tontinehelp_WideConf.l0]
      rw [if_pos (by omega), if_pos (by omega), rdL_nat _ j hj, if_neg (by simp at hq; omega), wrap_succ hj hp]
    · intro j hj hp
      refine Ev_one (fun k => ?_)
      simp only [List.getElem?_eq_getElem hj] at hp
      simp only [tontinehelp_WideConf.l0]
      rw [if_pos (by omega), if_pos (by omega), rdL_nat _ j hj, if_pos (by simp at hp; omega)]
    · refine Ev.step (fun k => ?_) h1
      simp only [tontinehelp_WideConf.l0]
      rw [if_neg (by omega)]
  unfold tontinehelp_WideConf.f wideB
  by_cases c1 : doms.length > 10
  · simp only [if_pos (show ((doms.length : Int)) > 10 by omega), decide_eq_true c1, Bool.true_or]
    exact Ev_one (fun k => by simp only [tontinehelp_WideConf.j0]; rfl)
  · simp only [if_neg (show ¬ ((doms.length : Int)) > 10 by omega), decide_eq_false c1, Bool.false_or]
    by_cases c2 : plans.length > 10
    · simp only [decide_eq_true (show ((plans.length : Int)) > 10 by omega), decide_eq_true c2, Bool.true_or]
      exact Ev_one (fun k => by simp only [tontinehelp_WideConf.j0]; rfl)
    · simp only [decide_eq_false (show ¬ ((plans.length : Int)) > 10 by omega), decide_eq_false c2, Bool.false_or]
      exact Ev.step (fun k => by simp only [tontinehelp_WideConf.j0]; rfl) h0

end Go.Proofs.YtlmllmbbdlkknaaDoor.WideR
