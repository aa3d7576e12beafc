/- Who may ask for a plan may send to all, and who may send to all may ask; what is wrong else is told: of every configuration and domain. -/
import Derived.Test.YthlokoombomndaaErrIs
import Derived.Test.YthlokoombomndaaPx13
import Derived.Test.YthlokoombomndaaCheckB
namespace Go.Proofs.Ythlokoombomndaa.Pure
open Go Go.RowKit Go.Proofs.Ythlokoombomndaa Go.Proofs.Ythlokoombomndaa.P Go.Proofs.Ythlokoombomndaa.Bits64 Go.Proofs.Ythlokoombomndaa.Lab Go.Proofs.Ythlokoombomndaa.ConfR Go.Proofs.Ythlokoombomndaa.CheckB Go.Proofs.YthlokoombomndaaW.PrintWords Go.Proofs.YthlokoombomndaaW.PrintLast Go.Proofs.YthlokoombomndaaW.PrintMore

theorem CheckPlans : ∀ (x0 : S25) (x1 : Int), wf25 x0 → (0 ≤ x1 ∧ x1 ≤ 255) → ∃ k, tontinelaw20_CheckPlans.f k x0.f0 x0.f1 x0.f2 x0.f3 x1 = some true := by
  rintro ⟨a, b, plans, doms⟩ x hw hx
  obtain ⟨_, _, hp, hd⟩ := hw
  dsimp only at hp hd ⊢
  have hdr : ∀ d ∈ doms, d.f1.length ≤ 9223372036854775807 ∧ d.f2.length ≤ 9223372036854775807 := fun d h => ⟨(hd.2 d h).2.1.1, (hd.2 d h).2.2.1.1⟩
  obtain ⟨K1, h1⟩ := known_f
  obtain ⟨K2, h2⟩ := wide_f a b plans doms hp.1 hd.1 (fun d h => (hdr d h).1)
  obtain ⟨K3, h3⟩ := isConf_f a b plans doms hp.1 (fun p h => (hp.2 p h).1) hd.1 hdr
  have e : ∀ t (c : Int), errors_Is.f t (some c) = some (decide (t = some c)) := fun _ _ => rfl
  have main : isConf a b plans doms = 0 → ∃ K4, ∀ k, K4 ≤ k → tontinelaw20_CheckPlans.j0 k x false a b plans doms = some true := by
    intro hc
    obtain ⟨l1, l2⟩ := isConf_len hc
    obtain ⟨t1, t2⟩ := tmod_in hx.1 hx.2 (show 0 < doms.length by omega)
    obtain ⟨i, hi⟩ : ∃ i, x.toNat % doms.length = i := ⟨_, rfl⟩
    rw [hi] at t1 t2
    obtain ⟨K5, h5⟩ := plan_f a b plans doms hd.1 i t2 0
    obtain ⟨K6, h6⟩ := plan_f a b plans doms hd.1 i t2 (plans.length : Int)
    have go : ∀ m j, j + m = doms.length → Ev (fun k => tontinelaw20_CheckPlans.l0 k (i : Int) ((List.range' 0 j).all (fun j => (flowE doms i j).isNone)) (j : Int) a b plans doms) true := by
      intro m
      induction m with
      | zero =>
        intro j hj
        obtain rfl : j = doms.length := (by omega)
        refine ⟨K5 + K6 + 2, fun k hk => ?_⟩
        obtain ⟨k, rfl⟩ : ∃ m, k = m + 1 := ⟨k - 1, by omega⟩
        have q5 := h5 k (by omega)
        have q6 := h6 k (by omega)
        dsimp only at q5 q6
        simp only [tontinelaw20_CheckPlans.l0]
        rw [if_neg (by omega), q5, bind_some', q6, bind_some']
        rw [show ((List.range' 0 doms.length).all (fun j => (flowE doms i j).isNone)) = sendsAll doms i from rfl]
        have hpl : ¬ (0 : Int) ≥ (plans.length : Int) := by
          have : inB plans.length 1 3 = true := by
            unfold isConf at hc
            split at hc
            · cases hc
            · split at hc
              · cases hc
              · rename_i h2
                have h3 : sharesB plans doms.length = true := by simpa only [Bool.not_eq_false] using h2
                unfold sharesB at h3
                rw [Bool.and_eq_true] at h3
                exact h3.1
          have := (inB_iff ..).1 this
          omega
        cases hs : sendsAll doms i with
        | true =>
          have p0 : planE plans doms i 0 = none := by unfold planE; rw [if_pos hs, if_neg (by omega), if_neg hpl]
          have p1 : planE plans doms i (plans.length : Int) = some 10 := by unfold planE; rw [if_pos hs, if_neg (by omega), if_pos (by omega)]
          rw [p0, p1]; rfl
        | false =>
          have p0 : planE plans doms i 0 = some 15 := by unfold planE; rw [if_neg (by rw [hs]; decide)]
          have p1 : planE plans doms i (plans.length : Int) = some 15 := by unfold planE; rw [if_neg (by rw [hs]; decide)]
          rw [p0, p1]; rfl
      | succ m ih =>
        intro j hj
        obtain ⟨K, hK⟩ := ih (j + 1) (by omega)
        refine ⟨K + 2, fun k hk => ?_⟩
        obtain ⟨k, rfl⟩ : ∃ m, k = m + 2 := ⟨k - 2, by omega⟩
        have q := hK (k + 1) (by omega)
        dsimp only at q
        have hr : (List.range' 0 (j + 1)).all (fun j => (flowE doms i j).isNone) = ((List.range' 0 j).all (fun j => (flowE doms i j).isNone) && (flowE doms i j).isNone) := by
          rw [List.range'_concat]; simp
        rw [hr] at q
        simp only [tontinelaw20_CheckPlans.l0]
        rw [if_pos (by omega), send_f a b plans doms i j t2 (by omega), bind_some', wrap_succ (show j < doms.length by omega) hd.1]
        cases hs : (List.range' 0 j).all (fun j => (flowE doms i j).isNone) with
        | true =>
          rw [hs, Bool.true_and] at q
          rw [if_pos rfl]
          cases hf : (flowE doms i j).isNone with
          | true => rw [hf] at q; rw [if_pos rfl]; exact q
          | false => rw [hf] at q; rw [if_neg (by decide)]; exact q
        | false =>
          rw [hs, Bool.false_and] at q
          rw [if_neg (by decide)]; exact q
    obtain ⟨K4, h4⟩ := go doms.length 0 (by omega)
    refine ⟨K4 + 1, fun k hk => ?_⟩
    obtain ⟨k, rfl⟩ : ∃ m, k = m + 1 := ⟨k - 1, by omega⟩
    simp only [tontinelaw20_CheckPlans.j0]
    rw [if_neg (by decide), if_neg (by omega), t1]
    exact h4 k (by omega)
  by_cases hc : isConf a b plans doms = 0
  · obtain ⟨K4, h4⟩ := main hc
    refine ⟨K1 + K2 + K3 + K4 + 2, ?_⟩
    have q1 := h1 (K1 + K2 + K3 + K4 + 2) (by omega)
    have q2 := h2 (K1 + K2 + K3 + K4 + 2) (by omega)
    have q3 := h3 (K1 + K2 + K3 + K4 + 2) (by omega)
    dsimp only at q1 q2 q3
    unfold tontinelaw20_CheckPlans.f
    rw [q1, bind_some', if_pos rfl, q2, bind_some']
    cases wideB plans doms with
    | true => rw [if_pos rfl]; simp only [tontinelaw20_CheckPlans.j0]; rfl
    | false =>
      rw [if_neg (by decide), q3, bind_some', hc]
      exact h4 _ (by omega)
  · refine ⟨K1 + K2 + K3 + 2, ?_⟩
    have q1 := h1 (K1 + K2 + K3 + 2) (by omega)
    have q2 := h2 (K1 + K2 + K3 + 2) (by omega)
    have q3 := h3 (K1 + K2 + K3 + 2) (by omega)
    dsimp only at q1 q2 q3
    unfold tontinelaw20_CheckPlans.f
    rw [q1, bind_some', if_pos rfl, q2, bind_some']
    cases wideB plans doms with
    | true => rw [if_pos rfl]; simp only [tontinelaw20_CheckPlans.j0]; rfl
    | false =>
      have : (isConf a b plans doms != 0) = true := by simpa using hc
      rw [if_neg (by decide), q3, bind_some', this]; simp only [tontinelaw20_CheckPlans.j0]; rfl
end Go.Proofs.Ythlokoombomndaa.Pure
