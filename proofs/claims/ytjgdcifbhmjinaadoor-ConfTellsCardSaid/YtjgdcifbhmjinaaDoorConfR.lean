/- Configurations, as the document's reference tells them (printed functions): when one may be, or what is wrong; when one is wider than is looked at. For every configuration whose rows fit into memory. -/
import Derived.Test.YtjgdcifbhmjinaaDoorPx11
import Derived.Test.YtjgdcifbhmjinaaDoorPx12
import Derived.Test.YtjgdcifbhmjinaaDoorPx8
import Derived.Test.YtjgdcifbhmjinaaDoorPx9
import Derived.Test.YtjgdcifbhmjinaaDoorLab
namespace Go.Proofs.YtjgdcifbhmjinaaDoor.ConfR
open Go Go.RowKit Go.Proofs.YtjgdcifbhmjinaaDoor Go.Proofs.YtjgdcifbhmjinaaDoor.P Go.Proofs.YtjgdcifbhmjinaaDoor.Bits64 Go.Proofs.YtjgdcifbhmjinaaDoor.Lab Go.Proofs.YtjgdcifbhmjinaaDoorW.PrintWords Go.Proofs.YtjgdcifbhmjinaaDoorW.PrintLast Go.Proofs.YtjgdcifbhmjinaaDoorW.PrintMore

set_option linter.unusedVariables false
/-! ### rounds -/
theorem Ev_one {α : Type} {f : Nat → Option α} {r : α} (h : ∀ k, f (k + 1) = some r) : Ev f r := ⟨1, fun k hk => by obtain ⟨m, rfl⟩ : ∃ m, k = m + 1 := ⟨k - 1, by omega⟩; exact h m⟩
theorem Ev_const {α : Type} (x : Option α) (r : α) (h : x = some r) : Ev (fun _ => x) r := ⟨0, fun _ _ => h⟩
/-- A loop over places: while p holds on it goes; where it does not it ends in e i; at the end in d. -/
theorem Ev_loop {α : Type} {g : Nat → Int → Option α} (n : Nat) (p : Nat → Bool) (e : Nat → α) (d : α)
    (step : ∀ i, i < n → p i = true → ∀ r, Ev (fun k => g k ((i + 1 : Nat) : Int)) r → Ev (fun k => g k (i : Int)) r)
    (stop : ∀ i, i < n → p i = false → Ev (fun k => g k (i : Int)) (e i)) (fin : Ev (fun k => g k (n : Int)) d) :
    ∀ m i, i + m = n → Ev (fun k => g k (i : Int)) (match (List.range' i m).find? (fun j => !p j) with | some j => e j | none => d) := by
  intro m
  induction m with
  | zero =>
    intro i hi
    obtain rfl : i = n := (by omega)
    simpa using fin
  | succ m ih =>
    intro i hi
    rw [List.range'_succ, List.find?_cons]
    cases hp : p i with
    | true => simpa [hp] using step i (by omega) hp _ (ih (i + 1) (by omega))
    | false => simpa [hp] using stop i (by omega) hp
theorem find_all {m i : Nat} {p : Nat → Bool} {α : Type} (e d : α) : (match (List.range' i m).find? (fun j => !p j) with | some _ => e | none => d) = if (List.range' i m).all p = true then d else e := by
  cases h : (List.range' i m).find? (fun j => !p j) with
  | none =>
    rw [if_pos]
    rw [List.find?_eq_none] at h
    exact List.all_eq_true.2 (fun x hx => by have := h x hx; simpa using this)
  | some j =>
    have h1 := List.find?_some h
    have h2 := List.mem_of_find?_eq_some h
    rw [if_neg]
    intro ha
    have := List.all_eq_true.1 ha j h2
    rw [this] at h1
    cases h1
/-- The same where all ends are alike. -/
theorem Ev_all {α : Type} {g : Nat → Int → Option α} (n : Nat) (p : Nat → Bool) (e d : α)
    (step : ∀ i, i < n → p i = true → ∀ r, Ev (fun k => g k ((i + 1 : Nat) : Int)) r → Ev (fun k => g k (i : Int)) r)
    (stop : ∀ i, i < n → p i = false → Ev (fun k => g k (i : Int)) e) (fin : Ev (fun k => g k (n : Int)) d) :
    Ev (fun k => g k 0) (if (List.range' 0 n).all p = true then d else e) := by
  rw [← find_all]
  exact Ev_loop n p (fun _ => e) d step stop fin n 0 (by omega)
theorem range_all {α : Type} (l : List α) (q : α → Bool) (p : Nat → Bool) (h : ∀ i x, l[i]? = some x → p i = q x) : (List.range' 0 l.length).all p = l.all q := by
  rw [Bool.eq_iff_iff, List.all_eq_true, List.all_eq_true]
  constructor
  · intro hp x hx
    obtain ⟨i, hi, rfl⟩ := List.getElem_of_mem hx
    rw [← h i _ (List.getElem?_eq_getElem hi)]
    exact hp i (by simp [List.mem_range']; omega)
  · intro hq i hi
    have hi' : i < l.length := by simp [List.mem_range'] at hi; omega
    rw [h i _ (List.getElem?_eq_getElem hi')]
    exact hq _ (List.getElem_mem hi')
theorem rd_nat (l : List Int) (i : Nat) (h : i < l.length) : rd l (i : Int) = l[i] := by simp [rd, List.getD_eq_getElem?_getD, List.getElem?_eq_getElem h]
theorem rdL_nat (l : List (List Int)) (i : Nat) (h : i < l.length) : rd_L3 l (i : Int) = l[i] := by simp [rd_L3, List.getD_eq_getElem?_getD, List.getElem?_eq_getElem h]
theorem rdD_nat (l : List S40) (i : Nat) (h : i < l.length) : rd_T40 l (i : Int) = l[i] := by simp [rd_T40, List.getD_eq_getElem?_getD, List.getElem?_eq_getElem h]
theorem wrap_succ {i n : Nat} (h : i < n) (hn : n ≤ 9223372036854775807) : wrap64 ((i : Int) + 1) = ((i + 1 : Nat) : Int) := by rw [wrap_in (by omega) (by omega)]; omega

/-! ### what may be -/
def inB (n a b : Int) : Bool := decide (n ≥ a) && decide (n ≤ b)
theorem within_f (n a b : Int) : tontineref1_within.f n a b = some (inB n a b) := by
  unfold tontineref1_within.f inB; by_cases h : n ≥ a <;> simp [h]
theorem inB_iff (n a b : Int) : inB n a b = true ↔ a ≤ n ∧ n ≤ b := by simp [inB]
theorem isLabel_f (a b : Int) : tontineref1_IsLabel.f a b = some (inB a 0 255) := by
  unfold tontineref1_IsLabel.f inB; by_cases h : a ≥ 0 <;> simp [h]

/-! ### wide -/
def wideB (plans : List (List Int)) (doms : List S40) : Bool :=
  decide (doms.length > 10) || decide (plans.length > 10) || plans.any (fun p => decide (p.length > 20)) ||
    doms.any (fun d => decide (d.f1.length > 10) || decide (d.f2.length > 10) || d.f1.any (fun r => decide (r.length > 20)))
theorem all_not {α : Type} (l : List α) (p : α → Bool) : (if (l.all fun x => !p x) = true then false else true) = l.any p := by
  induction l with
  | nil => rfl
  | cons x l ih => cases h : p x <;> simp [h] at ih ⊢; simpa using ih
theorem wide_f (a b : Int) (plans : List (List Int)) (doms : List S40) (hp : plans.length ≤ 9223372036854775807) (hd : doms.length ≤ 9223372036854775807)
    (hr : ∀ d ∈ doms, d.f1.length ≤ 9223372036854775807) : Ev (fun k => tontinehelp_WideConf.f k a b plans doms) (wideB plans doms) := by
  have h1 : Ev (fun k => tontinehelp_WideConf.l1 k 0 a b plans doms) (doms.any (fun d => decide (d.f1.length > 10) || decide (d.f2.length > 10) || d.f1.any (fun r => decide (r.length > 20)))) := by
    rw [← all_not, ← range_all doms (fun d => !(decide (d.f1.length > 10) || decide (d.f2.length > 10) || d.f1.any (fun r => decide (r.length > 20)))) (fun i => match doms[i]? with | some d => !(decide (d.f1.length > 10) || decide (d.f2.length > 10) || d.f1.any (fun r => decide (r.length > 20))) | none => true) (fun i x hx => by rw [hx])]
    have key : ∀ i (hi : i < doms.length) (r : Bool), (¬ (decide (doms[i].f1.length > 10) || decide (doms[i].f2.length > 10)) = true →
        Ev (fun k => tontinehelp_WideConf.l2 k (i : Int) 0 a b plans doms) r) → ((decide (doms[i].f1.length > 10) || decide (doms[i].f2.length > 10)) = true → r = true) →
        Ev (fun k => tontinehelp_WideConf.l1 k (i : Int) a b plans doms) r := by
      intro i hi r h2 h3
      refine Ev.step (f := fun k => if (((rd_T40 doms (i : Int)).f1).length : Int) > 10 then (tontinehelp_WideConf.j3 k (i : Int) true a b plans doms) else (tontinehelp_WideConf.j3 k (i : Int) (decide ((((rd_T40 doms (i : Int)).f2).length : Int) > 10)) a b plans doms)) (fun k => by
        simp only [tontinehelp_WideConf.l1]; rw [if_pos (show (i : Int) < (doms.length : Int) by omega), if_pos (show (0 : Int) ≤ (i : Int) by omega)]) ?_
      rw [rdD_nat doms i hi]
      by_cases c1 : doms[i].f1.length > 10
      · simp only [if_pos (show ((doms[i].f1.length : Int)) > 10 by omega)]
        rw [h3 (by simp [c1])]
        exact Ev_one (fun k => by simp only [tontinehelp_WideConf.j3]; rfl)
      · simp only [if_neg (show ¬ ((doms[i].f1.length : Int)) > 10 by omega)]
        by_cases c2 : doms[i].f2.length > 10
        · simp only [decide_eq_true (show ((doms[i].f2.length : Int)) > 10 by omega)]
          rw [h3 (by simp [c2])]
          exact Ev_one (fun k => by simp only [tontinehelp_WideConf.j3]; rfl)
        · simp only [decide_eq_false (show ¬ ((doms[i].f2.length : Int)) > 10 by omega)]
          exact Ev.step (f := fun k => tontinehelp_WideConf.l2 k (i : Int) 0 a b plans doms) (fun k => by simp only [tontinehelp_WideConf.j3]; rfl) (h2 (by simp [c1, c2]))
    have inner : ∀ i (hi : i < doms.length) (d : Bool), Ev (fun k => tontinehelp_WideConf.l1 k ((i + 1 : Nat) : Int) a b plans doms) d →
        Ev (fun k => tontinehelp_WideConf.l2 k (i : Int) 0 a b plans doms) (if (doms[i].f1.all (fun r => !decide (r.length > 20))) = true then d else true) := by
      intro i hi d hn
      have hri := hr doms[i] (List.getElem_mem hi)
      rw [← range_all doms[i].f1 (fun r => !decide (r.length > 20)) (fun j => match doms[i].f1[j]? with | some r => !decide (r.length > 20) | none => true) (fun j x hx => by rw [hx])]
      refine Ev_all (g := fun k x => tontinehelp_WideConf.l2 k (i : Int) x a b plans doms) doms[i].f1.length _ true d ?_ ?_ ?_
      · intro j hj hp r hE
        refine Ev.step (fun k => ?_) hE
        simp only [tontinehelp_WideConf.l2]
        simp only [List.getElem?_eq_getElem hj] at hp
        rw [if_pos (by omega), if_pos (by omega), rdD_nat doms i hi, if_pos (by omega), if_pos (by omega), rdL_nat _ j hj, if_neg (by simp at hp; omega), wrap_succ hj hri]
      · intro j hj hp
        refine Ev_one (fun k => ?_)
        simp only [tontinehelp_WideConf.l2]
        simp only [List.getElem?_eq_getElem hj] at hp
        rw [if_pos (by omega), if_pos (by omega), rdD_nat doms i hi, if_pos (by omega), if_pos (by omega), rdL_nat _ j hj, if_pos (by simp at hp; omega)]
      · refine Ev.step (fun k => ?_) hn
        simp only [tontinehelp_WideConf.l2]
        rw [if_pos (by omega), if_pos (by omega), rdD_nat doms i hi, if_neg (by omega), wrap_succ hi hd]
    refine Ev_all (g := fun k x => tontinehelp_WideConf.l1 k x a b plans doms) doms.length _ true false ?_ ?_ ?_
    · intro i hi hp r hE
      simp only [List.getElem?_eq_getElem hi] at hp
      rw [Bool.not_eq_true', Bool.or_eq_false_iff] at hp
      refine key i hi r (fun _ => ?_) (fun h => by rw [hp.1] at h; cases h)
      have h := inner i hi r hE
      have e : (doms[i].f1.all (fun r => !decide (r.length > 20))) = true := by
        have := hp.2
        rw [List.any_eq_false] at this
        exact List.all_eq_true.2 (fun x hx => by have := this x hx; simpa using this)
      rw [if_pos e] at h
      exact h
    · intro i hi hp
      simp only [List.getElem?_eq_getElem hi] at hp
      rw [Bool.not_eq_false', Bool.or_eq_true] at hp
      refine key i hi true (fun hc => ?_) (fun _ => rfl)
      rcases hp with hp | hp
      · exact absurd hp hc
      · -- one of the routes is too long, whatever comes after
        have hri := hr doms[i] (List.getElem_mem hi)
        have hlp := Ev_loop (g := fun k x => tontinehelp_WideConf.l2 k (i : Int) x a b plans doms) doms[i].f1.length (fun j => match doms[i].f1[j]? with | some r => !decide (r.length > 20) | none => true) (fun _ => true) true
        obtain ⟨x, hx, hx2⟩ := List.any_eq_true.1 hp
        obtain ⟨j0, hj0, rfl⟩ := List.getElem_of_mem hx
        -- up to the first such place
        have go : ∀ m j, j + m = j0 → Ev (fun k => tontinehelp_WideConf.l2 k (i : Int) (j : Int) a b plans doms) true := by
          intro m
          induction m with
          | zero =>
            intro j hj
            obtain rfl : j = j0 := by omega
            refine Ev_one (fun k => ?_)
            simp only [tontinehelp_WideConf.l2]
            rw [if_pos (by omega), if_pos (by omega), rdD_nat doms i hi, if_pos (by omega), if_pos (by omega), rdL_nat _ j hj0, if_pos (by simp at hx2; omega)]
          | succ m ih =>
            intro j hj
            have hj' : j < doms[i].f1.length := by omega
            by_cases c : doms[i].f1[j].length > 20
            · refine Ev_one (fun k => ?_)
              simp only [tontinehelp_WideConf.l2]
              rw [if_pos (by omega), if_pos (by omega), rdD_nat doms i hi, if_pos (by omega), if_pos (by omega), rdL_nat _ j hj', if_pos (by omega)]
            · refine Ev.step (fun k => ?_) (ih (j + 1) (by omega))
              simp only [tontinehelp_WideConf.l2]
              rw [if_pos (by omega), if_pos (by omega), rdD_nat doms i hi, if_pos (by omega), if_pos (by omega), rdL_nat _ j hj', if_neg (by omega), wrap_succ hj' hri]
        exact go j0 0 (by omega)
    · refine Ev_one (fun k => ?_)
      simp only [tontinehelp_WideConf.l1]
      rw [if_neg (by omega)]
  have h0 : Ev (fun k => tontinehelp_WideConf.l0 k 0 a b plans doms) (plans.any (fun p => decide (p.length > 20)) || doms.any (fun d => decide (d.f1.length > 10) || decide (d.f2.length > 10) || d.f1.any (fun r => decide (r.length > 20)))) := by
    have e : (plans.any (fun p => decide (p.length > 20)) || doms.any (fun d => decide (d.f1.length > 10) || decide (d.f2.length > 10) || d.f1.any (fun r => decide (r.length > 20)))) =
        if (List.range' 0 plans.length).all (fun i => match plans[i]? with | some p => !decide (p.length > 20) | none => true) = true then doms.any (fun d => decide (d.f1.length > 10) || decide (d.f2.length > 10) || d.f1.any (fun r => decide (r.length > 20))) else true := by
      rw [range_all plans (fun p => !decide (p.length > 20)) _ (fun i x hx => by rw [hx])]
      cases hh : plans.any (fun p => decide (p.length > 20)) with
      | true =>
        rw [if_neg, Bool.true_or]
        intro hc
        obtain ⟨x, hx, hx2⟩ := List.any_eq_true.1 hh
        have := List.all_eq_true.1 hc x hx
        rw [hx2] at this
        cases this
      | false =>
        rw [if_pos, Bool.false_or]
        rw [List.any_eq_false] at hh
        exact List.all_eq_true.2 (fun x hx => by have := hh x hx; simpa using this)
    rw [e]
    refine Ev_all (g := fun k x => tontinehelp_WideConf.l0 k x a b plans doms) plans.length _ true _ ?_ ?_ ?_
    · intro j hj hq r hE
      refine Ev.step (fun k => ?_) hE
      simp only [List.getElem?_eq_getElem hj] at hq
      simp only [tontinehelp_WideConf.l0]
      rw [if_pos (by omega), if_pos (by omega), rdL_nat _ j hj, if_neg (by simp at hq; omega), wrap_succ hj hp]
    · intro j hj hp
      refine Ev_one (fun k => ?_)
      simp only [List.getElem?_eq_getElem hj] at hp
      simp only [tontinehelp_WideConf.l0]
      rw [if_pos (by omega), if_pos (by omega), rdL_nat _ j hj, if_pos (by simp at hp; omega)]
    · refine Ev.step (fun k => ?_) h1
      simp only [tontinehelp_WideConf.l0]
      rw [if_neg (by omega)]
  unfold tontinehelp_WideConf.f wideB
  by_cases c1 : doms.length > 10
  · simp only [if_pos (show ((doms.length : Int)) > 10 by omega), decide_eq_true c1, Bool.true_or]
    exact Ev_one (fun k => by simp only [tontinehelp_WideConf.j0]; rfl)
  · simp only [if_neg (show ¬ ((doms.length : Int)) > 10 by omega), decide_eq_false c1, Bool.false_or]
    by_cases c2 : plans.length > 10
    · simp only [decide_eq_true (show ((plans.length : Int)) > 10 by omega), decide_eq_true c2, Bool.true_or]
      exact Ev_one (fun k => by simp only [tontinehelp_WideConf.j0]; rfl)
    · simp only [decide_eq_false (show ¬ ((plans.length : Int)) > 10 by omega), decide_eq_false c2, Bool.false_or]
      exact Ev.step (fun k => by simp only [tontinehelp_WideConf.j0]; rfl) h0

/-! ### shares -/
def rowB (nd n : Nat) (s : Bool) (l : List Int) : Bool := l.all (fun x => inB x 0 1000) && decide (n = nd) && (s || l.any (fun x => decide (x > 0)))
theorem rowB_nil (nd n : Nat) (s : Bool) : rowB nd n s [] = (decide (n = nd) && s) := by simp [rowB]
theorem rowB_cons (nd n : Nat) (s : Bool) (x : Int) (l : List Int) : rowB nd n s (x :: l) = (inB x 0 1000 && rowB nd n (s || decide (x > 0)) l) := by
  simp [rowB, Bool.and_assoc, Bool.or_assoc]
def planB (nd : Nat) (p : List Int) : Bool := rowB nd p.length false p
def sharesB (plans : List (List Int)) (nd : Nat) : Bool := inB plans.length 1 3 && plans.all (planB nd)
theorem shares_f (a b : Int) (plans : List (List Int)) (doms : List S40) (hp : plans.length ≤ 9223372036854775807) (hr : ∀ p ∈ plans, p.length ≤ 9223372036854775807) :
    Ev (fun k => tontineref1_shares.f k a b plans doms) (sharesB plans doms.length) := by
  have row : ∀ i (hi : i < plans.length) (d : Bool), (planB doms.length plans[i] = true → Ev (fun k => tontineref1_shares.l0 k ((i + 1 : Nat) : Int) a b plans doms) d) →
      Ev (fun k => tontineref1_shares.l1 k (i : Int) false 0 a b plans doms) (cond (planB doms.length plans[i]) d false) := by
    intro i hi d hn
    have hri := hr plans[i] (List.getElem_mem hi)
    have go : ∀ m j (s : Bool), j + m = plans[i].length → (rowB doms.length plans[i].length s (plans[i].drop j) = true → planB doms.length plans[i] = true) →
        Ev (fun k => tontineref1_shares.l1 k (i : Int) s (j : Int) a b plans doms) (cond (rowB doms.length plans[i].length s (plans[i].drop j)) d false) := by
      intro m
      induction m with
      | zero =>
        intro j s hj hh
        have hdr : plans[i].drop j = [] := List.drop_of_length_le (by omega)
        rw [hdr] at hh ⊢
        rw [rowB_nil] at hh ⊢
        by_cases hl : plans[i].length = doms.length
        · cases s with
          | true =>
            rw [decide_eq_true hl] at hh ⊢
            refine Ev.step (fun k => ?_) (hn (hh rfl))
            simp only [tontineref1_shares.l1]
            rw [if_pos (by omega), if_pos (by omega), rdL_nat plans i hi, if_neg (by omega), if_pos (by omega), if_pos trivial, wrap_succ hi hp]
          | false =>
            rw [Bool.and_false]
            refine Ev_one (fun k => ?_)
            simp only [tontineref1_shares.l1]
            rw [if_pos (by omega), if_pos (by omega), rdL_nat plans i hi, if_neg (by omega), if_pos (by omega), if_neg (by decide)]
            rfl
        · rw [decide_eq_false hl]
          refine Ev_one (fun k => ?_)
          simp only [tontineref1_shares.l1]
          rw [if_pos (by omega), if_pos (by omega), rdL_nat plans i hi, if_neg (by omega), if_neg (by omega)]
          rfl
      | succ m ih =>
        intro j s hj hh
        have hjl : j < plans[i].length := by omega
        have hdr : plans[i].drop j = plans[i][j] :: plans[i].drop (j + 1) := List.drop_eq_getElem_cons hjl
        rw [hdr] at hh ⊢
        rw [rowB_cons] at hh ⊢
        rcases Bool.eq_false_or_eq_true (inB plans[i][j] 0 1000) with hin | hin
        · rw [hin, Bool.true_and] at hh ⊢
          refine Ev.step (fun k => ?_) (ih (j + 1) (s || decide (plans[i][j] > 0)) (by omega) hh)
          simp only [tontineref1_shares.l1]
          rw [if_pos (by omega), if_pos (by omega), rdL_nat plans i hi, if_pos (by omega), if_pos (by omega), rd_nat _ j hjl, within_f, hin, bind_some', if_pos rfl, wrap_succ hjl hri]
          cases s with
          | true => rw [if_pos rfl, Bool.true_or]
          | false => rw [if_neg (by decide), Bool.false_or]
        · rw [hin, Bool.false_and]
          refine Ev_one (fun k => ?_)
          simp only [tontineref1_shares.l1]
          rw [if_pos (by omega), if_pos (by omega), rdL_nat plans i hi, if_pos (by omega), if_pos (by omega), rd_nat _ j hjl, within_f, hin]
          rfl
    exact go plans[i].length 0 false (by omega) (fun h => h)
  unfold tontineref1_shares.f sharesB
  simp only [within_f, bind_some']
  rcases Bool.eq_false_or_eq_true (inB plans.length 1 3) with hin | hin
  · rw [hin, Bool.true_and]
    simp only [if_true]
    have e : plans.all (planB doms.length) = if (List.range' 0 plans.length).all (fun i => match plans[i]? with | some p => planB doms.length p | none => true) = true then true else false := by
      rw [range_all plans (planB doms.length) _ (fun i x hx => by rw [hx])]
      cases plans.all (planB doms.length) <;> rfl
    rw [e]
    refine Ev_all (g := fun k x => tontineref1_shares.l0 k x a b plans doms) plans.length _ false true ?_ ?_ ?_
    · intro i hi hq r hE
      simp only [List.getElem?_eq_getElem hi] at hq
      have h := row i hi r (fun _ => hE)
      rw [hq] at h
      refine Ev.step (fun k => ?_) h
      simp only [tontineref1_shares.l0]
      rw [if_pos (by omega)]
    · intro i hi hq
      simp only [List.getElem?_eq_getElem hi] at hq
      have h := row i hi false (fun h => by rw [hq] at h; cases h)
      rw [hq] at h
      refine Ev.step (fun k => ?_) h
      simp only [tontineref1_shares.l0]
      rw [if_pos (by omega)]
    · refine Ev_one (fun k => ?_)
      simp only [tontineref1_shares.l0]
      rw [if_neg (by omega)]
  · rw [hin, Bool.false_and]
    exact Ev_const _ _ rfl

/-! ### routes -/
def stepB (doms : List S40) (n : Int) : Bool := inB n 0 ((doms.length : Int) - 1)
/-- Of a route: its places are domains, not too many, at least one, and their labels rise from the domain's own. -/
def routeB (doms : List S40) (x : S38) (r : List Int) : Bool := r.all (stepB doms) && decide (r.length ≤ 301) && !decide (r.length = 0) && riseB (x :: r.map (fun n => (rd_T40 doms n).f0))
def toB (frame : Int) (doms : List S40) (x : S40) : Bool :=
  decide (x.f3 = -1) || (x.f2.all (fun n => inB n 0 frame) && inB x.f2.length 1 4 && leqB (rd_T40 doms x.f3).f0.f0 (rd_T40 doms x.f3).f0.f1 x.f0.f0 x.f0.f1 && !sameB (rd_T40 doms x.f3).f0 x.f0)
def formB (doms : List S40) (i : Nat) (x : S40) : Bool :=
  !(decide (x.f1.length > 3) || decide (x.f3 < -1) || decide (x.f3 ≥ (doms.length : Int)) || decide (x.f3 = (i : Int)) || (decide (x.f3 = -1) && decide (x.f2.length > 0)))
def routesB (frame : Int) (doms : List S40) (i : Nat) (x : S40) : Bool := formB doms i x && x.f1.all (routeB doms x.f0) && toB frame doms x

section
variable (a b : Int) (plans : List (List Int)) (doms : List S40) (x : S40)
theorem routes_l2 (hd : doms.length ≤ 9223372036854775807) (hr : x.f2.length ≤ 9223372036854775807) (h0 : 0 ≤ x.f3) (h1 : x.f3 < (doms.length : Int)) :
    Ev (fun k => tontineref1_routes.l2 k 0 a b plans doms x.f0.f0 x.f0.f1 x.f1 x.f2 x.f3 x.f4 x.f5 x.f6 x.f7 x.f8) (toB a doms x) := by
  have e : toB a doms x = if (List.range' 0 x.f2.length).all (fun i => match x.f2[i]? with | some n => inB n 0 a | none => true) = true then
      (inB x.f2.length 1 4 && leqB (rd_T40 doms x.f3).f0.f0 (rd_T40 doms x.f3).f0.f1 x.f0.f0 x.f0.f1 && !sameB (rd_T40 doms x.f3).f0 x.f0) else false := by
    rw [range_all x.f2 (fun n => inB n 0 a) _ (fun i y hy => by rw [hy])]
    unfold toB
    rw [decide_eq_false (show ¬ x.f3 = -1 by omega), Bool.false_or]
    cases x.f2.all (fun n => inB n 0 a) <;> simp
  rw [e]
  refine Ev_all (g := fun k j => tontineref1_routes.l2 k j a b plans doms x.f0.f0 x.f0.f1 x.f1 x.f2 x.f3 x.f4 x.f5 x.f6 x.f7 x.f8) x.f2.length _ false _ ?_ ?_ ?_
  · intro j hj hq r hE
    simp only [List.getElem?_eq_getElem hj] at hq
    refine Ev.step (fun k => ?_) hE
    simp only [tontineref1_routes.l2]
    rw [if_pos (by omega), if_pos (by omega), rd_nat _ j hj, within_f, hq, bind_some', if_pos rfl, wrap_succ hj hr]
  · intro j hj hq
    simp only [List.getElem?_eq_getElem hj] at hq
    refine Ev_one (fun k => ?_)
    simp only [tontineref1_routes.l2]
    rw [if_pos (by omega), if_pos (by omega), rd_nat _ j hj, within_f, hq, bind_some', if_neg (by decide)]
  · refine Ev_one (fun k => ?_)
    simp only [tontineref1_routes.l2]
    rw [if_neg (by omega), if_pos h0, if_pos h1, within_f, bind_some']
    cases h3 : inB x.f2.length 1 4 with
    | false => rw [if_neg (by decide)]; rfl
    | true =>
      rw [if_pos rfl, rleq_f, bind_some']
      cases h4 : leqB (rd_T40 doms x.f3).f0.f0 (rd_T40 doms x.f3).f0.f1 x.f0.f0 x.f0.f1 with
      | false => rw [if_neg (by decide)]; rfl
      | true =>
        rw [if_pos rfl]
        simp only [Bool.true_and, sameB, Bool.not_and]
theorem routes_l0_end (hd : doms.length ≤ 9223372036854775807) (hr : x.f2.length ≤ 9223372036854775807) (hx : x.f1.length ≤ 9223372036854775807) (h0 : -1 ≤ x.f3) (h1 : x.f3 < (doms.length : Int)) :
    Ev (fun k => tontineref1_routes.l0 k (x.f1.length : Int) a b plans doms x.f0.f0 x.f0.f1 x.f1 x.f2 x.f3 x.f4 x.f5 x.f6 x.f7 x.f8) (toB a doms x) := by
  by_cases hm : x.f3 = -1
  · refine Ev_one (fun k => ?_)
    simp only [tontineref1_routes.l0]
    rw [if_neg (by omega), if_pos hm]
    simp [toB, hm]
  · refine Ev.step (fun k => ?_) (routes_l2 a b plans doms x hd hr (by omega) h1)
    simp only [tontineref1_routes.l0]
    rw [if_neg (by omega), if_neg hm]
theorem routes_l1 (hd : doms.length ≤ 9223372036854775807) (i : Nat) (hi : i < x.f1.length) (hx : x.f1.length ≤ 9223372036854775807) (d : Bool)
    (hn : routeB doms x.f0 x.f1[i] = true → Ev (fun k => tontineref1_routes.l0 k ((i + 1 : Nat) : Int) a b plans doms x.f0.f0 x.f0.f1 x.f1 x.f2 x.f3 x.f4 x.f5 x.f6 x.f7 x.f8) d) :
    Ev (fun k => tontineref1_routes.l1 k (i : Int) [⟨x.f0.f0, x.f0.f1⟩] 0 a b plans doms x.f0.f0 x.f0.f1 x.f1 x.f2 x.f3 x.f4 x.f5 x.f6 x.f7 x.f8) (cond (routeB doms x.f0 x.f1[i]) d false) := by
  have wd : wrap64 ((doms.length : Int) - 1) = (doms.length : Int) - 1 := wrap_in (by omega) (by omega)
  have go : ∀ m j, j + m = x.f1[i].length → j ≤ 301 → (x.f1[i].take j).all (stepB doms) = true →
      Ev (fun k => tontineref1_routes.l1 k (i : Int) (x.f0 :: (x.f1[i].take j).map (fun n => (rd_T40 doms n).f0)) (j : Int) a b plans doms x.f0.f0 x.f0.f1 x.f1 x.f2 x.f3 x.f4 x.f5 x.f6 x.f7 x.f8) (cond (routeB doms x.f0 x.f1[i]) d false) := by
    intro m
    induction m with
    | zero =>
      intro j hj hj1 hall
      have htk : x.f1[i].take j = x.f1[i] := List.take_of_length_le (by omega)
      rw [htk] at hall ⊢
      by_cases h0 : x.f1[i].length = 0
      · have hb : routeB doms x.f0 x.f1[i] = false := by simp [routeB, h0]
        rw [hb]
        refine Ev_one (fun k => ?_)
        simp only [tontineref1_routes.l1]
        rw [if_pos (by omega), if_pos (by omega), rdL_nat x.f1 i hi, if_neg (by omega), if_pos (by simp [h0])]
        rfl
      · have hb : routeB doms x.f0 x.f1[i] = riseB (x.f0 :: x.f1[i].map (fun n => (rd_T40 doms n).f0)) := by
          unfold routeB
          rw [hall, decide_eq_true (by omega), decide_eq_false h0]
          simp
        rw [hb] at hn ⊢
        have hch := fun k => rchain_f (x.f0 :: x.f1[i].map (fun n => (rd_T40 doms n).f0)) (by simp; omega) k
        rcases Bool.eq_false_or_eq_true (riseB (x.f0 :: x.f1[i].map (fun n => (rd_T40 doms n).f0))) with hri | hri
        · rw [hri] at hch ⊢
          obtain ⟨K, hK⟩ := hn hri
          refine ⟨max K (x.f1[i].length + 2) + 1, fun k hk => ?_⟩
          obtain ⟨k, rfl⟩ : ∃ m, k = m + 1 := ⟨k - 1, by omega⟩
          simp only [tontineref1_routes.l1]
          rw [if_pos (by omega), if_pos (by omega), rdL_nat x.f1 i hi, if_neg (by omega), if_neg (by simp; omega), hch k (by simp; omega), bind_some', if_pos rfl, wrap_succ hi hx]
          exact hK k (by omega)
        · rw [hri] at hch ⊢
          refine ⟨x.f1[i].length + 3, fun k hk => ?_⟩
          obtain ⟨k, rfl⟩ : ∃ m, k = m + 1 := ⟨k - 1, by omega⟩
          simp only [tontineref1_routes.l1]
          rw [if_pos (by omega), if_pos (by omega), rdL_nat x.f1 i hi, if_neg (by omega), if_neg (by simp; omega), hch k (by simp; omega), bind_some', if_neg (by decide)]
          rfl
    | succ m ih =>
      intro j hj hj1 hall
      have hjl : j < x.f1[i].length := by omega
      rcases Bool.eq_false_or_eq_true (stepB doms x.f1[i][j]) with hs | hs
      · have hs' := (inB_iff ..).1 hs
        by_cases h300 : j > 300
        · have hb : routeB doms x.f0 x.f1[i] = false := by
            unfold routeB
            rw [decide_eq_false (by omega : ¬ x.f1[i].length ≤ 301)]
            simp
          rw [hb]
          refine Ev_one (fun k => ?_)
          simp only [tontineref1_routes.l1]
          rw [if_pos (by omega), if_pos (by omega), rdL_nat x.f1 i hi, if_pos (by omega), if_pos (by omega), rd_nat _ j hjl, wd, within_f, show inB x.f1[i][j] 0 ((doms.length : Int) - 1) = true from hs, bind_some', if_pos rfl, if_pos (by omega)]
          rfl
        · have ht : x.f1[i].take (j + 1) = x.f1[i].take j ++ [x.f1[i][j]] := by rw [List.take_succ_eq_append_getElem hjl]
          have h := ih (j + 1) (by omega) (by omega) (by rw [ht, List.all_append, hall]; simp [hs])
          rw [ht, List.map_append, List.map_cons, List.map_nil] at h
          refine Ev.step (fun k => ?_) h
          simp only [tontineref1_routes.l1]
          rw [if_pos (by omega), if_pos (by omega), rdL_nat x.f1 i hi, if_pos (by omega), if_pos (by omega), rd_nat _ j hjl, wd, within_f, show inB x.f1[i][j] 0 ((doms.length : Int) - 1) = true from hs, bind_some', if_pos rfl, if_neg (by omega), if_pos (by omega), if_pos (by omega), if_pos (by simp; omega), show wrap64 ((j : Int) + 1) = ((j + 1 : Nat) : Int) from by rw [wrap_in (by omega) (by omega)]; omega]
          rfl
      · have hb : routeB doms x.f0 x.f1[i] = false := by
          unfold routeB
          have : x.f1[i].all (stepB doms) = false := by
            rw [List.all_eq_false]
            exact ⟨x.f1[i][j], List.getElem_mem hjl, by simp [hs]⟩
          rw [this]; simp
        rw [hb]
        refine Ev_one (fun k => ?_)
        simp only [tontineref1_routes.l1]
        rw [if_pos (by omega), if_pos (by omega), rdL_nat x.f1 i hi, if_pos (by omega), if_pos (by omega), rd_nat _ j hjl, wd, within_f, show inB x.f1[i][j] 0 ((doms.length : Int) - 1) = false from hs, bind_some', if_neg (by decide)]
        rfl
  exact go x.f1[i].length 0 (by omega) (by omega) (by simp)
theorem routes_l0 (hd : doms.length ≤ 9223372036854775807) (hr : x.f2.length ≤ 9223372036854775807) (hx : x.f1.length ≤ 9223372036854775807) (h0 : -1 ≤ x.f3) (h1 : x.f3 < (doms.length : Int)) :
    Ev (fun k => tontineref1_routes.l0 k 0 a b plans doms x.f0.f0 x.f0.f1 x.f1 x.f2 x.f3 x.f4 x.f5 x.f6 x.f7 x.f8) (x.f1.all (routeB doms x.f0) && toB a doms x) := by
  have e : (x.f1.all (routeB doms x.f0) && toB a doms x) = if (List.range' 0 x.f1.length).all (fun i => match x.f1[i]? with | some r => routeB doms x.f0 r | none => true) = true then toB a doms x else false := by
    rw [range_all x.f1 (routeB doms x.f0) _ (fun i y hy => by rw [hy])]
    cases x.f1.all (routeB doms x.f0) <;> simp
  rw [e]
  refine Ev_all (g := fun k j => tontineref1_routes.l0 k j a b plans doms x.f0.f0 x.f0.f1 x.f1 x.f2 x.f3 x.f4 x.f5 x.f6 x.f7 x.f8) x.f1.length _ false _ ?_ ?_ (routes_l0_end a b plans doms x hd hr hx h0 h1)
  · intro i hi hq r hE
    simp only [List.getElem?_eq_getElem hi] at hq
    have h := routes_l1 a b plans doms x hd i hi hx r (fun _ => hE)
    rw [hq] at h
    refine Ev.step (fun k => ?_) h
    simp only [tontineref1_routes.l0]
    rw [if_pos (by omega)]
  · intro i hi hq
    simp only [List.getElem?_eq_getElem hi] at hq
    have h := routes_l1 a b plans doms x hd i hi hx false (fun h => by rw [hq] at h; cases h)
    rw [hq] at h
    refine Ev.step (fun k => ?_) h
    simp only [tontineref1_routes.l0]
    rw [if_pos (by omega)]
end
theorem routes_f (a b : Int) (plans : List (List Int)) (doms : List S40) (hd : doms.length ≤ 9223372036854775807) (i : Nat) (hi : i < doms.length)
    (hr : doms[i].f2.length ≤ 9223372036854775807) (hx : doms[i].f1.length ≤ 9223372036854775807) : Ev (fun k => tontineref1_routes.f k a b plans doms (i : Int)) (routesB a doms i doms[i]) := by
  have j0 : ∀ (c : Bool), (c = false → -1 ≤ doms[i].f3 ∧ doms[i].f3 < (doms.length : Int)) → Ev (fun k => tontineref1_routes.j0 k c a b plans doms doms[i].f0.f0 doms[i].f0.f1 doms[i].f1 doms[i].f2 doms[i].f3 doms[i].f4 doms[i].f5 doms[i].f6 doms[i].f7 doms[i].f8) (cond c false (doms[i].f1.all (routeB doms doms[i].f0) && toB a doms doms[i])) := by
    intro c hc
    cases c with
    | true => exact Ev_one (fun k => by simp only [tontineref1_routes.j0]; rfl)
    | false => exact Ev.step (fun k => by simp only [tontineref1_routes.j0]; rfl) (routes_l0 a b plans doms doms[i] hd hr hx (hc rfl).1 (hc rfl).2)
  unfold tontineref1_routes.f routesB formB
  simp only [if_pos (show (0 : Int) ≤ (i : Int) by omega), if_pos (show (i : Int) < (doms.length : Int) by omega), rdD_nat doms i hi]
  by_cases c1 : doms[i].f1.length > 3
  · simp only [if_pos (show ((doms[i].f1.length : Int)) > 3 by omega), decide_eq_true c1]
    simpa using j0 true (by simp)
  simp only [if_neg (show ¬ ((doms[i].f1.length : Int)) > 3 by omega), decide_eq_false c1]
  by_cases c2 : doms[i].f3 < -1
  · simp only [if_pos c2, decide_eq_true c2]
    simpa using j0 true (by simp)
  simp only [if_neg c2, decide_eq_false c2]
  by_cases c3 : doms[i].f3 ≥ (doms.length : Int)
  · simp only [if_pos c3, decide_eq_true c3]
    simpa using j0 true (by simp)
  simp only [if_neg c3, decide_eq_false c3]
  by_cases c4 : doms[i].f3 = (i : Int)
  · simp only [if_pos c4, decide_eq_true c4]
    simpa using j0 true (by simp)
  simp only [if_neg c4, decide_eq_false c4]
  by_cases c5 : doms[i].f3 = -1
  · simp only [if_pos c5, decide_eq_true c5]
    by_cases c6 : doms[i].f2.length > 0
    · simp only [decide_eq_true (show ((doms[i].f2.length : Int)) > 0 by omega), decide_eq_true c6]
      simpa using j0 true (by simp)
    · simp only [decide_eq_false (show ¬ ((doms[i].f2.length : Int)) > 0 by omega), decide_eq_false c6]
      simpa using j0 false (fun _ => by omega)
  · simp only [if_neg c5, decide_eq_false c5]
    simpa using j0 false (fun _ => by omega)

/-! ### whether a configuration may be -/
def quotaB (d : S40) : Bool := inB d.f4 1 8 && inB d.f5 0 4 && inB d.f6 1 16 && inB d.f7 0 8 && inB d.f8 1 8
def isConf (frame epoch : Int) (plans : List (List Int)) (doms : List S40) : Int :=
  if (inB frame 1 64 && inB epoch 1 8 && inB doms.length 1 6 && doms.all (fun d => inB d.f0.f0 0 255)) = false then 10
  else if sharesB plans doms.length = false then 18
  else if doms.all quotaB = false then 19
  else if (List.range' 0 doms.length).all (fun i => match doms[i]? with | some d => routesB frame doms i d | none => true) = false then 17
  else 0
theorem isConf_f (a b : Int) (plans : List (List Int)) (doms : List S40) (hp : plans.length ≤ 9223372036854775807) (hpr : ∀ p ∈ plans, p.length ≤ 9223372036854775807) (hd : doms.length ≤ 9223372036854775807)
    (hdr : ∀ d ∈ doms, d.f1.length ≤ 9223372036854775807 ∧ d.f2.length ≤ 9223372036854775807) : Ev (fun k => tontineref1_IsConf.f k a b plans doms) (isConf a b plans doms) := by
  have h2 : Ev (fun k => tontineref1_IsConf.l2 k (doms.length : Int) 0 a b plans doms) (if (List.range' 0 doms.length).all (fun i => match doms[i]? with | some d => routesB a doms i d | none => true) = true then 0 else 17) := by
    refine Ev_all (g := fun k i => tontineref1_IsConf.l2 k (doms.length : Int) i a b plans doms) doms.length _ 17 0 ?_ ?_ ?_
    · intro i hi hq r hE
      simp only [List.getElem?_eq_getElem hi] at hq
      obtain ⟨K, hK⟩ := hE
      obtain ⟨K', hK'⟩ := routes_f a b plans doms hd i hi (hdr _ (List.getElem_mem hi)).2 (hdr _ (List.getElem_mem hi)).1
      refine ⟨max K K' + 1, fun k hk => ?_⟩
      obtain ⟨k, rfl⟩ : ∃ m, k = m + 1 := ⟨k - 1, by omega⟩
      have q := hK' k (by omega)
      dsimp only at q
      simp only [tontineref1_IsConf.l2]
      rw [if_pos (by omega), q, hq, bind_some', if_pos rfl, wrap_succ hi hd]
      exact hK k (by omega)
    · intro i hi hq
      simp only [List.getElem?_eq_getElem hi] at hq
      obtain ⟨K', hK'⟩ := routes_f a b plans doms hd i hi (hdr _ (List.getElem_mem hi)).2 (hdr _ (List.getElem_mem hi)).1
      refine ⟨K' + 1, fun k hk => ?_⟩
      obtain ⟨k, rfl⟩ : ∃ m, k = m + 1 := ⟨k - 1, by omega⟩
      have q := hK' k (by omega)
      dsimp only at q
      simp only [tontineref1_IsConf.l2]
      rw [if_pos (by omega), q, hq, bind_some', if_neg (by decide)]
    · refine Ev_one (fun k => ?_)
      simp only [tontineref1_IsConf.l2]
      rw [if_neg (by omega)]
  have h1 : Ev (fun k => tontineref1_IsConf.l1 k (doms.length : Int) 0 a b plans doms) (if doms.all quotaB = true then (if (List.range' 0 doms.length).all (fun i => match doms[i]? with | some d => routesB a doms i d | none => true) = true then 0 else 17) else 19) := by
    rw [← range_all doms quotaB (fun i => match doms[i]? with | some d => quotaB d | none => true) (fun i y hy => by rw [hy])]
    have one : ∀ i (hi : i < doms.length) (r : Int), (quotaB doms[i] = true → Ev (fun k => tontineref1_IsConf.l1 k (doms.length : Int) ((i + 1 : Nat) : Int) a b plans doms) r) →
        Ev (fun k => tontineref1_IsConf.l1 k (doms.length : Int) (i : Int) a b plans doms) (cond (quotaB doms[i]) r 19) := by
      intro i hi r hn
      have body : ∀ k, tontineref1_IsConf.l1 (k + 1) (doms.length : Int) (i : Int) a b plans doms = if quotaB doms[i] = true then tontineref1_IsConf.l1 k (doms.length : Int) ((i + 1 : Nat) : Int) a b plans doms else some 19 := by
        intro k
        simp only [tontineref1_IsConf.l1]
        rw [if_pos (by omega), if_pos (by omega), if_pos (by omega), rdD_nat doms i hi, wrap_succ hi hd]
        simp only [within_f, bind_some', quotaB]
        rcases Bool.eq_false_or_eq_true (inB doms[i].f4 1 8) with h1 | h1 <;> rcases Bool.eq_false_or_eq_true (inB doms[i].f5 0 4) with h2 | h2 <;> rcases Bool.eq_false_or_eq_true (inB doms[i].f6 1 16) with h3 | h3 <;> rcases Bool.eq_false_or_eq_true (inB doms[i].f7 0 8) with h4 | h4 <;> simp [h1, h2, h3, h4]
      cases hq : quotaB doms[i] with
      | true => exact Ev.step (fun k => by rw [body k, hq, if_pos rfl]) (hn hq)
      | false => exact Ev_one (fun k => by rw [body k, hq]; rfl)
    refine Ev_all (g := fun k i => tontineref1_IsConf.l1 k (doms.length : Int) i a b plans doms) doms.length _ 19 _ ?_ ?_ ?_
    · intro i hi hq r hE
      simp only [List.getElem?_eq_getElem hi] at hq
      have h := one i hi r (fun _ => hE)
      rw [hq] at h
      exact h
    · intro i hi hq
      simp only [List.getElem?_eq_getElem hi] at hq
      have h := one i hi 19 (fun h => by rw [hq] at h; cases h)
      rw [hq] at h
      exact h
    · refine Ev.step (fun k => ?_) h2
      simp only [tontineref1_IsConf.l1]
      rw [if_neg (by omega)]
  have hs := shares_f a b plans doms hp hpr
  have h0 : Ev (fun k => tontineref1_IsConf.l0 k (doms.length : Int) 0 a b plans doms) (if doms.all (fun d => inB d.f0.f0 0 255) = true then (if sharesB plans doms.length = true then (if doms.all quotaB = true then (if (List.range' 0 doms.length).all (fun i => match doms[i]? with | some d => routesB a doms i d | none => true) = true then 0 else 17) else 19) else 18) else 10) := by
    rw [← range_all doms (fun d => inB d.f0.f0 0 255) (fun i => match doms[i]? with | some d => inB d.f0.f0 0 255 | none => true) (fun i y hy => by rw [hy])]
    refine Ev_all (g := fun k i => tontineref1_IsConf.l0 k (doms.length : Int) i a b plans doms) doms.length _ 10 _ ?_ ?_ ?_
    · intro i hi hq r hE
      simp only [List.getElem?_eq_getElem hi] at hq
      refine Ev.step (fun k => ?_) hE
      simp only [tontineref1_IsConf.l0]
      rw [if_pos (by omega), if_pos (by omega), if_pos (by omega), rdD_nat doms i hi, isLabel_f, hq, bind_some', if_pos rfl, wrap_succ hi hd]
    · intro i hi hq
      simp only [List.getElem?_eq_getElem hi] at hq
      refine Ev_one (fun k => ?_)
      simp only [tontineref1_IsConf.l0]
      rw [if_pos (by omega), if_pos (by omega), if_pos (by omega), rdD_nat doms i hi, isLabel_f, hq, bind_some', if_neg (by decide)]
    · obtain ⟨K, hK⟩ := hs
      obtain ⟨K', hK'⟩ := h1
      refine ⟨max K K' + 1, fun k hk => ?_⟩
      obtain ⟨k, rfl⟩ : ∃ m, k = m + 1 := ⟨k - 1, by omega⟩
      have q := hK k (by omega)
      dsimp only at q
      simp only [tontineref1_IsConf.l0]
      rw [if_neg (by omega), q, bind_some']
      cases sharesB plans doms.length with
      | true => rw [if_pos rfl, if_pos rfl]; exact hK' k (by omega)
      | false => rw [if_neg (by decide), if_neg (by decide)]
  have j0 : ∀ c : Bool, Ev (fun k => tontineref1_IsConf.j0 k (doms.length : Int) c a b plans doms) (cond c 10 (if doms.all (fun d => inB d.f0.f0 0 255) = true then (if sharesB plans doms.length = true then (if doms.all quotaB = true then (if (List.range' 0 doms.length).all (fun i => match doms[i]? with | some d => routesB a doms i d | none => true) = true then 0 else 17) else 19) else 18) else 10)) := by
    intro c
    cases c with
    | true => exact Ev_one (fun k => by simp only [tontineref1_IsConf.j0]; rfl)
    | false => exact Ev.step (fun k => by simp only [tontineref1_IsConf.j0]; rfl) h0
  unfold tontineref1_IsConf.f isConf
  simp only [within_f, bind_some']
  cases h1 : inB a 1 64 with
  | false => simpa using j0 true
  | true =>
    cases h2 : inB b 1 8 with
    | false => simpa using j0 true
    | true =>
      cases h3 : inB doms.length 1 6 with
      | false => simpa using j0 true
      | true =>
        have h := j0 false
        simp only [Bool.not_true, if_true, Bool.true_and, cond_false] at h ⊢
        cases h4 : doms.all (fun d => inB d.f0.f0 0 255) with
        | false => rw [h4] at h; simpa using h
        | true =>
          rw [h4] at h
          cases h5 : sharesB plans doms.length with
          | false => rw [h5] at h; simpa using h
          | true =>
            rw [h5] at h
            cases h6 : doms.all quotaB with
            | false => rw [h6] at h; simpa using h
            | true =>
              rw [h6] at h
              cases h7 : (List.range' 0 doms.length).all (fun i => match doms[i]? with | some d => routesB a doms i d | none => true) with
              | false => rw [h7] at h; simpa using h
              | true => rw [h7] at h; simpa using h
end Go.Proofs.YtjgdcifbhmjinaaDoor.ConfR
