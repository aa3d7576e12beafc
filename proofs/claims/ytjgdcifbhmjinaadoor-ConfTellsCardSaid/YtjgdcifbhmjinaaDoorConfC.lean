/- Configurations, as the program itself tells them (printed functions): when one may be, or what is wrong. For every configuration whose rows fit into memory. -/
import Derived.Test.YtjgdcifbhmjinaaDoorPx2
import Derived.Test.YtjgdcifbhmjinaaDoorPx3
import Derived.Test.YtjgdcifbhmjinaaDoorPx4
import Derived.Test.YtjgdcifbhmjinaaDoorPx5
import Derived.Test.YtjgdcifbhmjinaaDoorPx6
import Derived.Test.YtjgdcifbhmjinaaDoorConfR
namespace Go.Proofs.YtjgdcifbhmjinaaDoor.ConfC
open Go Go.RowKit Go.Proofs.YtjgdcifbhmjinaaDoor Go.Proofs.YtjgdcifbhmjinaaDoor.P Go.Proofs.YtjgdcifbhmjinaaDoor.Bits64 Go.Proofs.YtjgdcifbhmjinaaDoor.Lab Go.Proofs.YtjgdcifbhmjinaaDoor.ConfR Go.Proofs.YtjgdcifbhmjinaaDoorW.PrintWords Go.Proofs.YtjgdcifbhmjinaaDoorW.PrintLast Go.Proofs.YtjgdcifbhmjinaaDoorW.PrintMore
set_option linter.unusedVariables false
theorem Ev_bind {α β : Type} {f : Nat → Option α} {g : Nat → α → Option β} {x : α} {r : β} (h : Ev f x) (hg : Ev (fun k => g k x) r) : Ev (fun k => (f k).bind (g k)) r := by
  obtain ⟨K1, h1⟩ := h
  obtain ⟨K2, h2⟩ := hg
  exact ⟨K1 + K2, fun k hk => by
    show (f k).bind (g k) = some r
    rw [h1 k (by omega), bind_some']
    exact h2 k (by omega)⟩
theorem Ev_step {α : Type} {f g : Nat → Option α} {r : α} (h : ∀ k, f (k + 1) = g k) (hg : Ev g r) : Ev f r := Ev.step h hg
theorem Ev_is {α : Type} {f : Nat → Option α} {r : α} (h : ∀ k, f k = some r) : Ev f r := ⟨0, fun k _ => h k⟩
theorem Ev_eq {α : Type} {f g : Nat → Option α} {r : α} (h : ∀ k, f k = g k) (hg : Ev g r) : Ev f r := by
  obtain ⟨K, hK⟩ := hg
  exact ⟨K, fun k hk => (h k).trans (hK k hk)⟩
theorem cwithin_f (n a b : Int) : conf_within.f n a b = some (inB n a b) := by
  unfold conf_within.f inB
  by_cases h : n ≥ a <;> simp [h]
theorem clabel_f (a b : Int) : label_Is.f a b = some (inB a 0 255) := by
  unfold label_Is.f inB
  by_cases h : a ≥ 0 <;> simp [h]
theorem form_l0 (doms : List S40) (hd : doms.length ≤ 9223372036854775807) : ∀ m i (s : Bool), i + m = doms.length →
    Ev (fun k => conf_form.l0 k s doms (doms.length : Int) (i : Int)) (s && (doms.drop i).all (fun d => inB d.f0.f0 0 255)) := by
  intro m
  induction m with
  | zero =>
    intro i s hi
    rw [List.drop_of_length_le (by omega)]
    refine Ev_one (fun k => ?_)
    simp only [conf_form.l0]
    rw [if_neg (by omega)]
    simp
  | succ m ih =>
    intro i s hi
    have hl : i < doms.length := by omega
    rw [List.drop_eq_getElem_cons hl, List.all_cons, ← Bool.and_assoc]
    refine Ev.step (fun k => ?_) (ih (i + 1) (s && inB doms[i].f0.f0 0 255) (by omega))
    simp only [conf_form.l0]
    rw [if_pos (by omega), if_pos (by omega), if_pos (by omega), rdD_nat doms i hl, wrap_succ hl hd]
    cases s with
    | true => rw [if_pos rfl, clabel_f, bind_some', Bool.true_and]
    | false => rw [if_neg (by decide), Bool.false_and]
theorem form_f (a b : Int) (plans : List (List Int)) (doms : List S40) (hd : doms.length ≤ 9223372036854775807) :
    Ev (fun k => conf_form.f k a b plans doms) (inB a 1 64 && inB b 1 8 && inB doms.length 1 6 && doms.all (fun d => inB d.f0.f0 0 255)) := by
  have h0 := fun s => form_l0 doms hd doms.length 0 s (by omega)
  have hj : ∀ s, Ev (fun k => conf_form.j0 k s a b plans doms) (s && doms.all (fun d => inB d.f0.f0 0 255)) := fun s => by
    refine Ev.step (fun k => ?_) (h0 s)
    simp only [conf_form.j0]
    rfl
  unfold conf_form.f
  simp only [cwithin_f, bind_some']
  cases h1 : inB a 1 64 with
  | false => simpa using hj false
  | true =>
    cases h2 : inB b 1 8 with
    | false => simpa using hj false
    | true => simpa using hj (inB doms.length 1 6)
/-! ### the greatest, the least of a row -/
theorem mx_le (a b c : Int) : mx a b ≤ c ↔ a ≤ c ∧ b ≤ c := by unfold mx; split <;> omega
theorem le_mn (a b c : Int) : c ≤ mn a b ↔ c ≤ a ∧ c ≤ b := by unfold mn; split <;> omega
theorem fold_mx : ∀ (l : List Int) (x c : Int), l.foldl mx x ≤ c ↔ x ≤ c ∧ ∀ y ∈ l, y ≤ c
  | [], x, c => by simp
  | y :: l, x, c => by
    rw [List.foldl_cons, fold_mx l, mx_le]
    simp [and_assoc]
theorem fold_mn : ∀ (l : List Int) (x c : Int), c ≤ l.foldl mn x ↔ c ≤ x ∧ ∀ y ∈ l, c ≤ y
  | [], x, c => by simp
  | y :: l, x, c => by
    rw [List.foldl_cons, fold_mn l, le_mn]
    simp [and_assoc]
theorem max_l0 (l : List Int) (hl : l.length ≤ 9223372036854775807) : ∀ m i (x : Int), i + m = l.length → Ev (fun k => slices_Max_int_int.l0 k l x (i : Int)) ((l.drop i).foldl mx x) := by
  intro m
  induction m with
  | zero =>
    intro i x hi
    rw [List.drop_of_length_le (by omega)]
    refine Ev_one (fun k => ?_)
    simp only [slices_Max_int_int.l0]
    rw [if_neg (by omega)]
    rfl
  | succ m ih =>
    intro i x hi
    have hil : i < l.length := by omega
    rw [List.drop_eq_getElem_cons hil, List.foldl_cons]
    refine Ev.step (fun k => ?_) (ih (i + 1) _ (by omega))
    simp only [slices_Max_int_int.l0]
    rw [if_pos (by omega), if_pos (by omega), rd_nat l i hil, wrap_succ hil hl]
theorem min_l0 (l : List Int) (hl : l.length ≤ 9223372036854775807) : ∀ m i (x : Int), i + m = l.length → Ev (fun k => slices_Min_int_int.l0 k l x (i : Int)) ((l.drop i).foldl mn x) := by
  intro m
  induction m with
  | zero =>
    intro i x hi
    rw [List.drop_of_length_le (by omega)]
    refine Ev_one (fun k => ?_)
    simp only [slices_Min_int_int.l0]
    rw [if_neg (by omega)]
    rfl
  | succ m ih =>
    intro i x hi
    have hil : i < l.length := by omega
    rw [List.drop_eq_getElem_cons hil, List.foldl_cons]
    refine Ev.step (fun k => ?_) (ih (i + 1) _ (by omega))
    simp only [slices_Min_int_int.l0]
    rw [if_pos (by omega), if_pos (by omega), rd_nat l i hil, wrap_succ hil hl]
theorem max_f (l : List Int) (hl : l.length ≤ 9223372036854775807) (h0 : 0 < l.length) : ∃ m, Ev (fun k => slices_Max_int_int.f k l) m ∧ ∀ c, m ≤ c ↔ ∀ y ∈ l, y ≤ c := by
  refine ⟨(l.drop 1).foldl mx l[0], Ev_eq (fun k => ?_) (max_l0 l hl (l.length - 1) 1 l[0] (by omega)), fun c => ?_⟩
  · unfold slices_Max_int_int.f
    rw [if_neg (by omega), if_pos (by omega), show (0 : Int) = ((0 : Nat) : Int) from rfl, rd_nat l 0 h0]
    rfl
  · rw [fold_mx]
    cases l with
    | nil => simp at h0
    | cons x l => simp
theorem min_f (l : List Int) (hl : l.length ≤ 9223372036854775807) (h0 : 0 < l.length) : ∃ m, Ev (fun k => slices_Min_int_int.f k l) m ∧ ∀ c, c ≤ m ↔ ∀ y ∈ l, c ≤ y := by
  refine ⟨(l.drop 1).foldl mn l[0], Ev_eq (fun k => ?_) (min_l0 l hl (l.length - 1) 1 l[0] (by omega)), fun c => ?_⟩
  · unfold slices_Min_int_int.f
    rw [if_neg (by omega), if_pos (by omega), show (0 : Int) = ((0 : Nat) : Int) from rfl, rd_nat l 0 h0]
    rfl
  · rw [fold_mn]
    cases l with
    | nil => simp at h0
    | cons x l => simp
/-! ### shares -/
theorem plan_row (nd : Nat) (hnd : 0 < nd) (p : List Int) (hp : p.length ≤ 9223372036854775807) (G : Nat → Option Bool) (d : Bool) (hG : planB nd p = true → Ev G d) :
    Ev (fun k => if (p.length : Int) = (nd : Int) then ((slices_Max_int_int.f k p).bind fun t => (if t < 1 then (some false) else (if t > 1000 then (some false) else ((slices_Min_int_int.f k p).bind fun u => (if u < 0 then (some false) else G k))))) else some false) (cond (planB nd p) d false) := by
  by_cases hl : p.length = nd
  · obtain ⟨m, hm, hmc⟩ := max_f p hp (by omega)
    obtain ⟨n, hn, hnc⟩ := min_f p hp (by omega)
    refine Ev_eq (fun k => if_pos (by omega)) (Ev_bind hm ?_)
    by_cases h1 : m < 1
    · have hb : planB nd p = false := by
        unfold planB rowB
        rw [Bool.false_or]
        have : p.any (fun x => decide (x > 0)) = false := by
          rw [List.any_eq_false]
          intro x hx
          have := (hmc 0).1 (by omega) x hx
          simpa using this
        rw [this, Bool.and_false]
      rw [hb]
      exact Ev_is (fun k => if_pos h1)
    · by_cases h2 : m > 1000
      · have hb : planB nd p = false := by
          unfold planB rowB
          have : p.all (fun x => inB x 0 1000) = false := by
            rw [Bool.eq_false_iff]
            intro h
            have := (hmc 1000).2 (fun y hy => ((inB_iff y 0 1000).1 (List.all_eq_true.1 h y hy)).2)
            omega
          rw [this, Bool.false_and, Bool.false_and]
        rw [hb]
        exact Ev_eq (fun k => if_neg h1) (Ev_is (fun k => if_pos h2))
      · refine Ev_eq (fun k => (if_neg h1).trans (if_neg h2)) (Ev_bind hn ?_)
        by_cases h3 : n < 0
        · have hb : planB nd p = false := by
            unfold planB rowB
            have : p.all (fun x => inB x 0 1000) = false := by
              rw [Bool.eq_false_iff]
              intro h
              have := (hnc 0).2 (fun y hy => ((inB_iff y 0 1000).1 (List.all_eq_true.1 h y hy)).1)
              omega
            rw [this, Bool.false_and, Bool.false_and]
          rw [hb]
          exact Ev_is (fun k => if_pos h3)
        · have hb : planB nd p = true := by
            unfold planB rowB
            rw [Bool.false_or]
            have e1 : p.all (fun x => inB x 0 1000) = true := List.all_eq_true.2 (fun x hx => (inB_iff x 0 1000).2 ⟨(hnc 0).1 (by omega) x hx, (hmc 1000).1 (by omega) x hx⟩)
            have e2 : p.any (fun x => decide (x > 0)) = true := by
              rw [← Bool.not_eq_false, List.any_eq_false]
              intro h
              have := (hmc 0).2 (fun y hy => by have := h y hy; simpa using this)
              omega
            rw [e1, e2, decide_eq_true hl]
            rfl
          have := hG hb
          rw [hb]
          exact Ev_eq (fun k => if_neg h3) this
  · have hb : planB nd p = false := by
      unfold planB rowB
      rw [decide_eq_false hl, Bool.and_false, Bool.false_and]
    rw [hb]
    exact Ev_is (fun k => if_neg (by omega))
theorem cshares_f (a b : Int) (plans : List (List Int)) (doms : List S40) (hn : 0 < doms.length) (hp : plans.length ≤ 9223372036854775807) (hr : ∀ p ∈ plans, p.length ≤ 9223372036854775807) :
    Ev (fun k => conf_shares.f k a b plans doms) (sharesB plans doms.length) := by
  unfold conf_shares.f sharesB
  simp only [cwithin_f, bind_some']
  rcases Bool.eq_false_or_eq_true (inB plans.length 1 3) with hin | hin
  · rw [hin, Bool.true_and]
    simp only [if_true]
    have e : plans.all (planB doms.length) = if (List.range' 0 plans.length).all (fun i => match plans[i]? with | some p => planB doms.length p | none => true) = true then true else false := by
      rw [range_all plans (planB doms.length) _ (fun i x hx => by rw [hx])]
      cases plans.all (planB doms.length) <;> rfl
    rw [e]
    refine Ev_all (g := fun k x => conf_shares.l0 k plans (plans.length : Int) x a b plans doms) plans.length _ false true ?_ ?_ ?_
    · intro i hi hq r hE
      simp only [List.getElem?_eq_getElem hi] at hq
      have h := plan_row doms.length hn plans[i] (hr _ (List.getElem_mem hi)) (fun k => conf_shares.l0 k plans (plans.length : Int) ((i + 1 : Nat) : Int) a b plans doms) r (fun _ => hE)
      rw [hq] at h
      refine Ev.step (fun k => ?_) h
      simp only [conf_shares.l0]
      rw [if_pos (by omega), if_pos (by omega), if_pos (by omega), rdL_nat plans i hi, wrap_succ hi hp]
    · intro i hi hq
      simp only [List.getElem?_eq_getElem hi] at hq
      have h := plan_row doms.length hn plans[i] (hr _ (List.getElem_mem hi)) (fun k => conf_shares.l0 k plans (plans.length : Int) ((i + 1 : Nat) : Int) a b plans doms) true (fun h => by rw [hq] at h; cases h)
      rw [hq] at h
      refine Ev.step (fun k => ?_) h
      simp only [conf_shares.l0]
      rw [if_pos (by omega), if_pos (by omega), if_pos (by omega), rdL_nat plans i hi, wrap_succ hi hp]
    · refine Ev_one (fun k => ?_)
      simp only [conf_shares.l0]
      rw [if_neg (by omega)]
  · rw [hin, Bool.false_and]
    exact Ev_is (fun k => rfl)
theorem quotas_f (d : S40) : conf_quotas.f d.f0.f0 d.f0.f1 d.f1 d.f2 d.f3 d.f4 d.f5 d.f6 d.f7 d.f8 = some (quotaB d) := by
  unfold conf_quotas.f quotaB
  simp only [cwithin_f, bind_some']
  cases inB d.f4 1 8 <;> cases inB d.f5 0 4 <;> cases inB d.f6 1 16 <;> cases inB d.f7 0 8 <;> simp
/-! ### routes -/
def labAt (doms : List S40) (n : Int) : S38 := (rd_T40 doms n).f0
def risesB (doms : List S40) (x : S38) (r : List Int) : Bool := r.all (stepB doms) && decide (0 < r.length) && riseB (x :: r.map (labAt doms))
theorem Ev_chain (l : List S38) : Ev (fun k => label_Chain.f k l) (riseB l) := ⟨l.length + 1, fun k hk => chain_f l k (by omega)⟩
theorem rises_l0 (a b : Int) (plans : List (List Int)) (doms : List S40) (hd : doms.length ≤ 9223372036854775807) (r : List Int) (hr : r.length ≤ 1000) : ∀ m i (ls : List S38), i + m = r.length → ls.length = i + 1 →
    Ev (fun k => conf_rises.l0 k r ls (i : Int) a b plans doms) ((r.drop i).all (stepB doms) && decide (0 < r.length) && riseB (ls ++ (r.drop i).map (labAt doms))) := by
  intro m
  induction m with
  | zero =>
    intro i ls hi hls
    rw [List.drop_of_length_le (by omega), List.all_nil, Bool.true_and, List.map_nil, List.append_nil]
    by_cases h0 : 0 < r.length
    · rw [decide_eq_true h0, Bool.true_and]
      refine Ev_step (f := fun k => conf_rises.l0 k r ls (i : Int) a b plans doms) (g := fun k => (label_Chain.f k ls).bind fun t => some t) (fun k => ?_) (Ev_bind (Ev_chain ls) (Ev_is (fun k => rfl)))
      simp only [conf_rises.l0]
      rw [if_pos (by omega), if_pos (by omega)]
    · rw [decide_eq_false h0, Bool.false_and]
      refine Ev_one (fun k => ?_)
      simp only [conf_rises.l0]
      rw [if_pos (by omega), if_neg (by omega)]
  | succ m ih =>
    intro i ls hi hls
    have hil : i < r.length := by omega
    rw [List.drop_eq_getElem_cons hil, List.all_cons, List.map_cons]
    have hw : wrap64 ((doms.length : Int) - 1) = (doms.length : Int) - 1 := wrap_in (by omega) (by omega)
    cases hst : stepB doms r[i] with
    | false =>
      rw [Bool.false_and, Bool.false_and, Bool.false_and]
      refine Ev_one (fun k => ?_)
      simp only [conf_rises.l0]
      rw [if_neg (by omega), if_pos (by omega), if_pos (by omega), rd_nat r i hil, hw, cwithin_f, bind_some']
      unfold stepB at hst
      rw [hst, if_neg (by decide)]
    | true =>
      rw [Bool.true_and]
      have h := ih (i + 1) (ls ++ [labAt doms r[i]]) (by omega) (by simp; omega)
      rw [List.append_assoc] at h
      have hin := (inB_iff _ _ _).1 hst
      refine Ev.step (fun k => ?_) h
      simp only [conf_rises.l0]
      rw [if_neg (by omega), if_pos (by omega), if_pos (by omega), rd_nat r i hil, hw, cwithin_f, bind_some']
      unfold stepB at hst
      rw [hst, if_pos rfl, if_pos (by omega), if_pos (by omega), if_pos (by omega), wrap_succ hil (by omega)]
      rfl
theorem rises_f (a b : Int) (plans : List (List Int)) (doms : List S40) (hd : doms.length ≤ 9223372036854775807) (x : S40) (r : List Int) (hr : r.length ≤ 1000) :
    Ev (fun k => conf_rises.f k a b plans doms x.f0.f0 x.f0.f1 x.f1 x.f2 x.f3 x.f4 x.f5 x.f6 x.f7 x.f8 r) (risesB doms x.f0 r) := by
  have h := rises_l0 a b plans doms hd r hr r.length 0 [x.f0] (by omega) rfl
  exact h
theorem risesB_eq (doms : List S40) (x : S38) (r : List Int) (hr : r.length ≤ 301) : risesB doms x r = routeB doms x r := by
  unfold risesB routeB
  rw [decide_eq_true hr, Bool.and_true]
  congr 1
  congr 1
  by_cases h : r.length = 0 <;> simp [h, Nat.pos_iff_ne_zero]
def fallsB (frame : Int) (doms : List S40) (i : Int) (x : S40) : Bool :=
  if x.f3 = -1 then decide (x.f2.length = 0) else inB x.f3 0 ((doms.length : Int) - 1) && !decide (x.f3 = i) && inB x.f2.length 1 4 && x.f2.all (fun n => inB n 0 frame) && !sameB (labAt doms x.f3) x.f0 && leqB (labAt doms x.f3).f0 (labAt doms x.f3).f1 x.f0.f0 x.f0.f1
theorem falls_f (a b : Int) (plans : List (List Int)) (doms : List S40) (hd : doms.length ≤ 9223372036854775807) (i : Nat) (hi : i < doms.length) (hr : doms[i].f2.length ≤ 9223372036854775807) :
    Ev (fun k => conf_falls.f k a b plans doms (i : Int)) (fallsB a doms (i : Int) doms[i]) := by
  have hw : wrap64 ((doms.length : Int) - 1) = (doms.length : Int) - 1 := wrap_in (by omega) (by omega)
  generalize hx : doms[i] = x at hr
  have hj : ∀ s : Bool, Ev (fun k => conf_falls.j0 k s a b plans doms x.f0.f0 x.f0.f1 x.f1 x.f2 x.f3 x.f4 x.f5 x.f6 x.f7 x.f8)
      (!s && x.f2.all (fun n => inB n 0 a) && !sameB (labAt doms x.f3) x.f0 && leqB (labAt doms x.f3).f0 (labAt doms x.f3).f1 x.f0.f0 x.f0.f1) ∨ (s = false ∧ (x.f2.length = 0 ∨ ¬ (0 ≤ x.f3 ∧ x.f3 < (doms.length : Int)))) := by
    intro s
    cases s with
    | true =>
      refine .inl (Ev_one (fun k => ?_))
      simp only [conf_falls.j0]
      rfl
    | false =>
      by_cases h0 : x.f2.length = 0
      · exact .inr ⟨rfl, .inl h0⟩
      · by_cases h3 : 0 ≤ x.f3 ∧ x.f3 < (doms.length : Int)
        · left
          obtain ⟨m, hm, hmc⟩ := max_f x.f2 hr (by omega)
          obtain ⟨n, hn, hnc⟩ := min_f x.f2 hr (by omega)
          rw [Bool.not_false, Bool.true_and]
          refine Ev_step (f := fun k => conf_falls.j0 k false a b plans doms x.f0.f0 x.f0.f1 x.f1 x.f2 x.f3 x.f4 x.f5 x.f6 x.f7 x.f8)
            (g := fun k => (slices_Min_int_int.f k x.f2).bind fun t156 => (if t156 ≥ 0 then ((slices_Max_int_int.f k x.f2).bind fun t157 => (if t157 ≤ a then (if (!(((labAt doms x.f3).f0) == x.f0.f0) || (!(((labAt doms x.f3).f1) == x.f0.f1))) = true then ((label_Leq.f ((labAt doms x.f3).f0) ((labAt doms x.f3).f1) x.f0.f0 x.f0.f1).bind fun t158 => (some t158)) else (some false)) else (some false))) else (some false))) (fun k => ?_) (Ev_bind hn ?_)
          · simp only [conf_falls.j0]
            rw [if_neg (by decide), if_pos h3.1, if_pos h3.2]
            rfl
          · by_cases c1 : n ≥ 0
            · refine Ev_eq (fun k => if_pos c1) (Ev_bind hm ?_)
              by_cases c2 : m ≤ a
              · have e1 : x.f2.all (fun y => inB y 0 a) = true := List.all_eq_true.2 (fun y hy => (inB_iff y 0 a).2 ⟨(hnc 0).1 c1 y hy, (hmc a).1 c2 y hy⟩)
                rw [e1, Bool.true_and]
                refine Ev_is (fun k => ?_)
                rw [if_pos c2, leq_f, bind_some']
                unfold sameB
                rw [← Bool.not_and]
                cases ((labAt doms x.f3).f0 == x.f0.f0 && (labAt doms x.f3).f1 == x.f0.f1) <;> rfl
              · have e1 : x.f2.all (fun y => inB y 0 a) = false := by
                  rw [Bool.eq_false_iff]
                  intro h
                  exact c2 ((hmc a).2 (fun y hy => ((inB_iff y 0 a).1 (List.all_eq_true.1 h y hy)).2))
                rw [e1, Bool.false_and, Bool.false_and]
                exact Ev_is (fun k => if_neg c2)
            · have e1 : x.f2.all (fun y => inB y 0 a) = false := by
                rw [Bool.eq_false_iff]
                intro h
                exact c1 ((hnc 0).2 (fun y hy => ((inB_iff y 0 a).1 (List.all_eq_true.1 h y hy)).1))
              rw [e1, Bool.false_and, Bool.false_and]
              exact Ev_is (fun k => if_neg c1)
        · exact .inr ⟨rfl, .inr h3⟩
  have e0 : ∀ k, conf_falls.f k a b plans doms (i : Int) = (if x.f3 = (-1) then (some (((x.f2).length : Int) == 0)) else (if inB x.f3 0 ((doms.length : Int) - 1) = true then (if x.f3 = (i : Int) then conf_falls.j0 k true a b plans doms x.f0.f0 x.f0.f1 x.f1 x.f2 x.f3 x.f4 x.f5 x.f6 x.f7 x.f8 else conf_falls.j0 k (!(inB (x.f2.length : Int) 1 4)) a b plans doms x.f0.f0 x.f0.f1 x.f1 x.f2 x.f3 x.f4 x.f5 x.f6 x.f7 x.f8) else conf_falls.j0 k true a b plans doms x.f0.f0 x.f0.f1 x.f1 x.f2 x.f3 x.f4 x.f5 x.f6 x.f7 x.f8)) := fun k => by
    unfold conf_falls.f
    rw [if_pos (by omega), if_pos (by omega), rdD_nat doms i hi, hx, hw, cwithin_f, bind_some', cwithin_f, bind_some']
  refine Ev_eq e0 ?_
  unfold fallsB
  by_cases c1 : x.f3 = -1
  · rw [if_pos c1]
    refine Ev_is (fun k => ?_)
    rw [if_pos c1]
    congr 1
    rw [Bool.eq_iff_iff, beq_iff_eq, decide_eq_true_eq]
    omega
  · rw [if_neg c1]
    refine Ev_eq (fun k => if_neg c1) ?_
    cases c2 : inB x.f3 0 ((doms.length : Int) - 1) with
    | false =>
      rcases hj true with h | ⟨h, _⟩
      · simpa using h
      · cases h
    | true =>
      have h3 := (inB_iff _ _ _).1 c2
      refine Ev_eq (fun k => if_pos rfl) ?_
      by_cases c3 : x.f3 = (i : Int)
      · rcases hj true with h | ⟨h, _⟩
        · refine Ev_eq (fun k => if_pos c3) ?_
          simpa [c3] using h
        · cases h
      · refine Ev_eq (fun k => if_neg c3) ?_
        rw [decide_eq_false c3]
        cases c4 : inB (x.f2.length : Int) 1 4 with
        | false =>
          rcases hj true with h | ⟨h, _⟩
          · simpa using h
          · cases h
        | true =>
          have h4 := (inB_iff _ _ _).1 c4
          rcases hj false with h | ⟨_, h | h⟩
          · simpa using h
          · omega
          · exact absurd ⟨h3.1, by omega⟩ h
def routesC (frame : Int) (doms : List S40) (i : Int) (x : S40) : Bool := x.f1.all (risesB doms x.f0) && decide (x.f1.length ≤ 3) && fallsB frame doms i x
theorem croutes_f (a b : Int) (plans : List (List Int)) (doms : List S40) (hd : doms.length ≤ 9223372036854775807) (i : Nat) (hi : i < doms.length) (hr : doms[i].f2.length ≤ 9223372036854775807) (h1 : doms[i].f1.length ≤ 1000) (h2 : ∀ r ∈ doms[i].f1, r.length ≤ 1000) :
    Ev (fun k => conf_routes.f k a b plans doms (i : Int)) (routesC a doms (i : Int) doms[i]) := by
  have hf := falls_f a b plans doms hd i hi hr
  generalize hx : doms[i] = x at hr h1 h2 hf
  have e : ∀ k, conf_routes.f k a b plans doms (i : Int) = conf_routes.l0 k (i : Int) x.f1 (x.f1.length : Int) 0 a b plans doms x.f0.f0 x.f0.f1 x.f1 x.f2 x.f3 x.f4 x.f5 x.f6 x.f7 x.f8 := fun k => by
    unfold conf_routes.f
    rw [if_pos (by omega), if_pos (by omega), rdD_nat doms i hi, hx]
  refine Ev_eq e ?_
  have er : routesC a doms (i : Int) x = if (List.range' 0 x.f1.length).all (fun j => match x.f1[j]? with | some r => risesB doms x.f0 r | none => true) = true then (decide (x.f1.length ≤ 3) && fallsB a doms (i : Int) x) else false := by
    rw [range_all x.f1 (risesB doms x.f0) _ (fun i x hx => by rw [hx])]
    unfold routesC
    cases x.f1.all (risesB doms x.f0) <;> simp
  rw [er]
  refine Ev_all (g := fun k j => conf_routes.l0 k (i : Int) x.f1 (x.f1.length : Int) j a b plans doms x.f0.f0 x.f0.f1 x.f1 x.f2 x.f3 x.f4 x.f5 x.f6 x.f7 x.f8) x.f1.length _ false _ ?_ ?_ ?_
  · intro j hj hq r hE
    simp only [List.getElem?_eq_getElem hj] at hq
    refine Ev_step (f := fun k => conf_routes.l0 k (i : Int) x.f1 (x.f1.length : Int) (j : Int) a b plans doms x.f0.f0 x.f0.f1 x.f1 x.f2 x.f3 x.f4 x.f5 x.f6 x.f7 x.f8)
      (g := fun k => (conf_rises.f k a b plans doms x.f0.f0 x.f0.f1 x.f1 x.f2 x.f3 x.f4 x.f5 x.f6 x.f7 x.f8 x.f1[j]).bind fun t164 => (if t164 = true then (conf_routes.l0 k (i : Int) x.f1 (x.f1.length : Int) ((j + 1 : Nat) : Int) a b plans doms x.f0.f0 x.f0.f1 x.f1 x.f2 x.f3 x.f4 x.f5 x.f6 x.f7 x.f8) else (some false))) (fun k => ?_)
      (Ev_bind (rises_f a b plans doms hd x x.f1[j] (h2 _ (List.getElem_mem hj))) (Ev_eq (fun k => if_pos hq) hE))
    simp only [conf_routes.l0]
    rw [if_pos (by omega), if_pos (by omega), if_pos (by omega), rdL_nat x.f1 j hj, wrap_succ hj (by omega)]
  · intro j hj hq
    simp only [List.getElem?_eq_getElem hj] at hq
    refine Ev_step (f := fun k => conf_routes.l0 k (i : Int) x.f1 (x.f1.length : Int) (j : Int) a b plans doms x.f0.f0 x.f0.f1 x.f1 x.f2 x.f3 x.f4 x.f5 x.f6 x.f7 x.f8)
      (g := fun k => (conf_rises.f k a b plans doms x.f0.f0 x.f0.f1 x.f1 x.f2 x.f3 x.f4 x.f5 x.f6 x.f7 x.f8 x.f1[j]).bind fun t164 => (if t164 = true then (conf_routes.l0 k (i : Int) x.f1 (x.f1.length : Int) ((j + 1 : Nat) : Int) a b plans doms x.f0.f0 x.f0.f1 x.f1 x.f2 x.f3 x.f4 x.f5 x.f6 x.f7 x.f8) else (some false))) (fun k => ?_)
      (Ev_bind (rises_f a b plans doms hd x x.f1[j] (h2 _ (List.getElem_mem hj))) (Ev_is (fun k => if_neg (by rw [hq]; decide))))
    simp only [conf_routes.l0]
    rw [if_pos (by omega), if_pos (by omega), if_pos (by omega), rdL_nat x.f1 j hj, wrap_succ hj (by omega)]
  · by_cases h3 : x.f1.length ≤ 3
    · rw [decide_eq_true h3, Bool.true_and]
      refine Ev_step (f := fun k => conf_routes.l0 k (i : Int) x.f1 (x.f1.length : Int) (x.f1.length : Int) a b plans doms x.f0.f0 x.f0.f1 x.f1 x.f2 x.f3 x.f4 x.f5 x.f6 x.f7 x.f8)
        (g := fun k => (conf_falls.f k a b plans doms (i : Int)).bind fun t162 => (some t162)) (fun k => ?_) (Ev_bind hf (Ev_is (fun k => rfl)))
      simp only [conf_routes.l0]
      rw [if_neg (by omega), if_pos (by omega)]
    · rw [decide_eq_false h3, Bool.false_and]
      refine Ev_one (fun k => ?_)
      simp only [conf_routes.l0]
      rw [if_neg (by omega), if_neg (by omega)]
theorem routesC_eq (a : Int) (doms : List S40) (i : Nat) (x : S40) (h2 : ∀ r ∈ x.f1, r.length ≤ 301) : routesC a doms (i : Int) x = routesB a doms i x := by
  have e1 : x.f1.all (risesB doms x.f0) = x.f1.all (routeB doms x.f0) := by
    rw [Bool.eq_iff_iff, List.all_eq_true, List.all_eq_true]
    exact ⟨fun h r hr => by rw [← risesB_eq doms x.f0 r (h2 r hr)]; exact h r hr, fun h r hr => by rw [risesB_eq doms x.f0 r (h2 r hr)]; exact h r hr⟩
  unfold routesC routesB
  rw [e1]
  cases x.f1.all (routeB doms x.f0) with
  | false => simp
  | true =>
    simp only [Bool.true_and, Bool.and_true]
    unfold fallsB formB toB
    by_cases c1 : x.f3 = -1
    · rw [if_pos c1]
      have h1 : ¬ (x.f3 < -1) := by omega
      have h2 : ¬ (x.f3 ≥ (doms.length : Int)) := by omega
      have h3 : ¬ (x.f3 = (i : Int)) := by omega
      rw [decide_eq_false h1, decide_eq_false h2, decide_eq_false h3, decide_eq_true c1]
      by_cases c2 : x.f1.length ≤ 3
      · by_cases c3 : x.f2.length = 0
        · simp [c2, c3]
        · have : 0 < x.f2.length := by omega
          simp [c2, c3, this]
      · have : x.f1.length > 3 := by omega
        simp [c2, this]
    · rw [if_neg c1, decide_eq_false c1]
      by_cases c2 : x.f1.length ≤ 3
      · have c2' : ¬ x.f1.length > 3 := by omega
        cases c4 : inB x.f3 0 ((doms.length : Int) - 1) with
        | false =>
          have : x.f3 < -1 ∨ x.f3 ≥ (doms.length : Int) := by
            by_cases h : x.f3 < -1
            · exact .inl h
            · refine .inr ?_
              by_cases h5 : x.f3 < (doms.length : Int)
              · have := (inB_iff x.f3 0 ((doms.length : Int) - 1)).2 ⟨by omega, by omega⟩
                rw [c4] at this
                cases this
              · omega
          rcases this with h | h <;> simp [h]
        | true =>
          have h4 := (inB_iff _ _ _).1 c4
          have h5 : ¬ x.f3 < -1 := by omega
          have h6 : ¬ x.f3 ≥ (doms.length : Int) := by omega
          unfold labAt
          rw [decide_eq_true c2, decide_eq_false c2', decide_eq_false h5, decide_eq_false h6]
          cases decide (x.f3 = (i : Int)) <;> cases inB (x.f2.length : Int) 1 4 <;> cases x.f2.all (fun n => inB n 0 a) <;> cases sameB (rd_T40 doms x.f3).f0 x.f0 <;> simp
      · have : x.f1.length > 3 := by omega
        simp [c2, this]
/-! ### what is wrong -/
def errOf (n : Int) : Option Int := if n = 0 then none else some n
/-- Rows that fit: as few as the statements look at. -/
def Fits (plans : List (List Int)) (doms : List S40) : Prop := plans.length ≤ 1000 ∧ (∀ p ∈ plans, p.length ≤ 1000) ∧ doms.length ≤ 1000 ∧ ∀ d ∈ doms, d.f1.length ≤ 1000 ∧ d.f2.length ≤ 1000 ∧ ∀ r ∈ d.f1, r.length ≤ 301
theorem is_f (a b : Int) (plans : List (List Int)) (doms : List S40) (hf : Fits plans doms) : Ev (fun k => conf_Is.f k a b plans doms) (errOf (isConf a b plans doms)) := by
  obtain ⟨hp, hpr, hd, hdr⟩ := hf
  have h1 : Ev (fun k => conf_Is.l1 k (doms.length : Int) 0 a b plans doms) (if (List.range' 0 doms.length).all (fun i => match doms[i]? with | some d => routesB a doms i d | none => true) = true then none else some 17) := by
    refine Ev_all (g := fun k i => conf_Is.l1 k (doms.length : Int) i a b plans doms) doms.length _ (some 17) none ?_ ?_ ?_
    · intro i hi hq r hE
      simp only [List.getElem?_eq_getElem hi] at hq
      have hm := hdr _ (List.getElem_mem hi)
      have hc := croutes_f a b plans doms (by omega) i hi (by omega) (by omega) (fun r hr => by have := hm.2.2 r hr; omega)
      rw [routesC_eq a doms i _ hm.2.2, hq] at hc
      refine Ev_step (f := fun k => conf_Is.l1 k (doms.length : Int) (i : Int) a b plans doms) (g := fun k => (conf_routes.f k a b plans doms (i : Int)).bind fun t171 => (if t171 = true then (conf_Is.l1 k (doms.length : Int) ((i + 1 : Nat) : Int) a b plans doms) else (some (some 17)))) (fun k => ?_) (Ev_bind hc (Ev_eq (fun k => if_pos rfl) hE))
      simp only [conf_Is.l1]
      rw [if_pos (by omega), wrap_succ hi (by omega)]
    · intro i hi hq
      simp only [List.getElem?_eq_getElem hi] at hq
      have hm := hdr _ (List.getElem_mem hi)
      have hc := croutes_f a b plans doms (by omega) i hi (by omega) (by omega) (fun r hr => by have := hm.2.2 r hr; omega)
      rw [routesC_eq a doms i _ hm.2.2, hq] at hc
      refine Ev_step (f := fun k => conf_Is.l1 k (doms.length : Int) (i : Int) a b plans doms) (g := fun k => (conf_routes.f k a b plans doms (i : Int)).bind fun t171 => (if t171 = true then (conf_Is.l1 k (doms.length : Int) ((i + 1 : Nat) : Int) a b plans doms) else (some (some 17)))) (fun k => ?_) (Ev_bind hc (Ev_is (fun k => if_neg (by decide))))
      simp only [conf_Is.l1]
      rw [if_pos (by omega), wrap_succ hi (by omega)]
    · refine Ev_one (fun k => ?_)
      simp only [conf_Is.l1]
      rw [if_neg (by omega)]
  have h0 : Ev (fun k => conf_Is.l0 k doms (doms.length : Int) 0 a b plans doms) (if doms.all quotaB = true then (if (List.range' 0 doms.length).all (fun i => match doms[i]? with | some d => routesB a doms i d | none => true) = true then none else some 17) else some 19) := by
    rw [← range_all doms quotaB (fun i => match doms[i]? with | some d => quotaB d | none => true) (fun i x hx => by rw [hx])]
    refine Ev_all (g := fun k i => conf_Is.l0 k doms (doms.length : Int) i a b plans doms) doms.length _ (some 19) _ ?_ ?_ ?_
    · intro i hi hq r hE
      simp only [List.getElem?_eq_getElem hi] at hq
      refine Ev.step (fun k => ?_) hE
      simp only [conf_Is.l0]
      rw [if_pos (by omega), if_pos (by omega), if_pos (by omega), rdD_nat doms i hi, quotas_f, bind_some', hq, if_pos rfl, wrap_succ hi (by omega)]
    · intro i hi hq
      simp only [List.getElem?_eq_getElem hi] at hq
      refine Ev_one (fun k => ?_)
      simp only [conf_Is.l0]
      rw [if_pos (by omega), if_pos (by omega), if_pos (by omega), rdD_nat doms i hi, quotas_f, bind_some', hq, if_neg (by decide)]
    · refine Ev.step (fun k => ?_) h1
      simp only [conf_Is.l0]
      rw [if_neg (by omega)]
  unfold conf_Is.f isConf
  refine Ev_bind (form_f a b plans doms (by omega)) ?_
  cases hfo : (inB a 1 64 && inB b 1 8 && inB doms.length 1 6 && doms.all (fun d => inB d.f0.f0 0 255)) with
  | false => exact Ev_is (fun k => rfl)
  | true =>
    have hn : 0 < doms.length := by
      simp only [Bool.and_eq_true] at hfo
      have := (inB_iff _ _ _).1 hfo.1.2
      omega
    refine Ev_eq (fun k => if_pos rfl) (Ev_bind (cshares_f a b plans doms hn (by omega) (fun p hp => by have := hpr p hp; omega)) ?_)
    rw [if_neg (by decide)]
    cases sharesB plans doms.length with
    | false => exact Ev_is (fun k => rfl)
    | true =>
      rw [if_neg (by decide)]
      refine Ev_eq (fun k => if_pos rfl) ?_
      cases hqu : doms.all quotaB with
      | false =>
        rw [hqu] at h0
        exact h0
      | true =>
        rw [hqu] at h0
        rw [if_neg (by decide)]
        cases hro : (List.range' 0 doms.length).all (fun i => match doms[i]? with | some d => routesB a doms i d | none => true) with
        | false => rw [hro] at h0; exact h0
        | true => rw [hro] at h0; exact h0
end Go.Proofs.YtjgdcifbhmjinaaDoor.ConfC
