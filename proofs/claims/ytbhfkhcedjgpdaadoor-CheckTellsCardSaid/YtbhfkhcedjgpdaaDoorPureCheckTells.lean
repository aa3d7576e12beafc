/- Who may read, send, ask for a plan, for a level: of every configuration, domain and number it is the document's answer. -/
import Derived.Test.YtbhfkhcedjgpdaaDoorPx15
import Derived.Test.YtbhfkhcedjgpdaaDoorPx16
import Derived.Test.YtbhfkhcedjgpdaaDoorPx17
import Derived.Test.YtbhfkhcedjgpdaaDoorPx18
import Derived.Test.YtbhfkhcedjgpdaaDoorPx19
import Derived.Test.YtbhfkhcedjgpdaaDoorCheckB
namespace Go.Proofs.YtbhfkhcedjgpdaaDoor.Pure
open Go Go.RowKit Go.Proofs.YtbhfkhcedjgpdaaDoor Go.Proofs.YtbhfkhcedjgpdaaDoor.P Go.Proofs.YtbhfkhcedjgpdaaDoor.Bits64 Go.Proofs.YtbhfkhcedjgpdaaDoor.Lab Go.Proofs.YtbhfkhcedjgpdaaDoor.ConfR Go.Proofs.YtbhfkhcedjgpdaaDoor.CheckB Go.Proofs.YtbhfkhcedjgpdaaDoorW.PrintWords Go.Proofs.YtbhfkhcedjgpdaaDoorW.PrintLast Go.Proofs.YtbhfkhcedjgpdaaDoorW.PrintMore

section
variable (a b : Int) (plans : List (List Int)) (doms : List S60)
theorem flows_out1 (n j : Int) (hn : ¬ (0 ≤ n ∧ n < (doms.length : Int))) (k : Nat) : check_flows.f (k + 1) a b plans doms n j = some (some 13) := by
  unfold check_flows.f
  rw [domain_f, bind_some', show (decide (0 ≤ n) && decide (n < (doms.length : Int))) = false by rw [Bool.and_eq_false_iff, decide_eq_false_iff_not, decide_eq_false_iff_not]; omega, if_neg (by decide)]
  simp only [check_flows.j0]; rfl
theorem flows_out2 (i n : Int) (hn : ¬ (0 ≤ n ∧ n < (doms.length : Int))) (k : Nat) : check_flows.f (k + 1) a b plans doms i n = some (some 13) := by
  unfold check_flows.f
  rw [domain_f, domain_f, bind_some', bind_some', show (decide (0 ≤ n) && decide (n < (doms.length : Int))) = false by rw [Bool.and_eq_false_iff, decide_eq_false_iff_not, decide_eq_false_iff_not]; omega]
  split <;> (simp only [check_flows.j0]; rfl)
theorem ris_f (n : Int) : tontineref15_is.f a b plans doms n = some (decide (0 ≤ n) && decide (n < (doms.length : Int))) := by
  unfold tontineref15_is.f; by_cases h : n ≥ 0 <;> simp [h] <;> omega
def codeE (e : Option Int) : Int := match e with | none => 0 | some n => n
theorem code_f (e : Option Int) : ext_8.f e = some (codeE e) := by cases e <;> rfl
theorem rread_f (i : Nat) (n : Int) (hi : i < doms.length) (k : Nat) : ∃ e, check_Read.f (k + 1) a b plans doms (i : Int) n = some e ∧ tontineref15_Read.f a b plans doms (i : Int) n = some (codeE e) := by
  unfold tontineref15_Read.f
  rw [ris_f, bind_some']
  by_cases h : 0 ≤ n ∧ n < (doms.length : Int)
  · obtain ⟨j, rfl⟩ : ∃ j : Nat, n = (j : Int) := ⟨n.toNat, by omega⟩
    refine ⟨_, read_f a b plans doms i j hi (by omega) k, ?_⟩
    rw [decide_eq_true h.1, decide_eq_true h.2, if_pos (show (true && true) = true from rfl), if_pos h.1, if_pos h.2, if_pos (by omega), if_pos (by omega), rleq_f, bind_some']
    unfold flowE; split <;> rfl
  · refine ⟨some 13, by unfold check_Read.f; rw [flows_out1 a b plans doms n i h, bind_some'], ?_⟩
    rw [show (decide (0 ≤ n) && decide (n < (doms.length : Int))) = false by rw [Bool.and_eq_false_iff, decide_eq_false_iff_not, decide_eq_false_iff_not]; omega, if_neg (by decide)]; rfl
theorem rsend_f (i : Nat) (n : Int) (hi : i < doms.length) (k : Nat) : ∃ e, check_Send.f (k + 1) a b plans doms (i : Int) n = some e ∧ tontineref15_Send.f a b plans doms (i : Int) n = some (codeE e) := by
  unfold tontineref15_Send.f
  rw [ris_f, bind_some']
  by_cases h : 0 ≤ n ∧ n < (doms.length : Int)
  · obtain ⟨j, rfl⟩ : ∃ j : Nat, n = (j : Int) := ⟨n.toNat, by omega⟩
    refine ⟨_, send_f a b plans doms i j hi (by omega) k, ?_⟩
    rw [decide_eq_true h.1, decide_eq_true h.2, if_pos (show (true && true) = true from rfl), if_pos (by omega), if_pos (by omega), if_pos h.1, if_pos h.2, rleq_f, bind_some']
    unfold flowE; split <;> rfl
  · refine ⟨some 13, by unfold check_Send.f; rw [flows_out2 a b plans doms i n h, bind_some'], ?_⟩
    rw [show (decide (0 ≤ n) && decide (n < (doms.length : Int))) = false by rw [Bool.and_eq_false_iff, decide_eq_false_iff_not, decide_eq_false_iff_not]; omega, if_neg (by decide)]; rfl
theorem rplan_f (hd : doms.length ≤ 9223372036854775807) (i : Nat) (hi : i < doms.length) (p : Int) : Ev (fun k => tontineref15_Plan.f k a b plans doms (i : Int) p) (codeE (planE plans doms i p)) := by
  have e : codeE (planE plans doms i p) = if sendsAll doms i = true then codeE (if p < 0 then some 10 else if p ≥ (plans.length : Int) then some 10 else none) else 15 := by unfold planE; split <;> rfl
  rw [e]
  unfold tontineref15_Plan.f
  refine Ev_all (g := fun k j => tontineref15_Plan.l0 k (i : Int) p j a b plans doms) doms.length _ (15 : Int) _ ?_ ?_ ?_
  · intro j hj hq r hE
    obtain ⟨K, hK⟩ := hE
    refine ⟨K + 2, fun k hk => ?_⟩
    obtain ⟨k, rfl⟩ : ∃ m, k = m + 2 := ⟨k - 2, by omega⟩
    have q := hK (k + 1) (by omega)
    dsimp only at q
    simp only [tontineref15_Plan.l0]
    rw [if_pos (by omega), if_pos (by omega), if_pos (by omega), if_pos (by omega), rleq_f, bind_some']
    have hl : leqB (rd_T60 doms i).f0.f0 (rd_T60 doms i).f0.f1 (rd_T60 doms j).f0.f0 (rd_T60 doms j).f0.f1 = true := by
      unfold flowE at hq
      split at hq
      · assumption
      · simp at hq
    rw [if_pos hl, wrap_succ hj hd, ← q]
    rfl
  · intro j hj hq
    refine ⟨2, fun k hk => ?_⟩
    obtain ⟨k, rfl⟩ : ∃ m, k = m + 2 := ⟨k - 2, by omega⟩
    simp only [tontineref15_Plan.l0]
    rw [if_pos (by omega), if_pos (by omega), if_pos (by omega), if_pos (by omega), rleq_f, bind_some']
    have hl : ¬ leqB (rd_T60 doms i).f0.f0 (rd_T60 doms i).f0.f1 (rd_T60 doms j).f0.f0 (rd_T60 doms j).f0.f1 = true := by
      intro hl
      unfold flowE at hq
      rw [if_pos hl] at hq
      simp at hq
    rw [if_neg hl]
  · refine Ev_one (fun k => ?_)
    simp only [tontineref15_Plan.l0]
    rw [if_neg (by omega)]
    split
    · rfl
    · split <;> rfl
theorem rlevel_f (i : Nat) (hi : i < doms.length) (n : Int) : tontineref15_Level.f a b plans doms (i : Int) n = some (codeE (levelE doms i n)) := by
  unfold tontineref15_Level.f levelE
  by_cases h : n < 0
  · rw [if_pos h, if_pos (by simp [h])]; rfl
  · rw [if_neg h, if_pos (by omega), if_pos (by omega)]
    by_cases h2 : n ≥ ((rd_T60 doms i).f2.length : Int)
    · rw [if_pos h2, if_pos (by simp [h2])]; rfl
    · rw [if_neg h2, if_neg (by simp [h, h2])]; rfl
end
theorem CheckTells : ∀ (x0 : S25) (x1 : Int) (x2 : Int), wf25 x0 → (0 ≤ x1 ∧ x1 ≤ 255) → (-9223372036854775808 ≤ x2 ∧ x2 ≤ 9223372036854775807) → ∃ k, tontinelaw20_CheckTells.f k x0.f0 x0.f1 x0.f2 x0.f3 x1 x2 = some true := by
  rintro ⟨a, b, plans, doms⟩ x n hw hx _
  obtain ⟨_, _, hp, hd⟩ := hw
  dsimp only at hp hd ⊢
  have hdr : ∀ d ∈ doms, d.f1.length ≤ 9223372036854775807 ∧ d.f2.length ≤ 9223372036854775807 := fun d h => ⟨(hd.2 d h).2.1.1, (hd.2 d h).2.2.1.1⟩
  obtain ⟨K1, h1⟩ := known_f
  obtain ⟨K2, h2⟩ := wide_f a b plans doms hp.1 hd.1 (fun d h => (hdr d h).1)
  obtain ⟨K3, h3⟩ := isConf_f a b plans doms hp.1 (fun p h => (hp.2 p h).1) hd.1 hdr
  have main : isConf a b plans doms = 0 → ∃ K4, ∀ k, K4 ≤ k → tontinelaw20_CheckTells.j0 k x n false a b plans doms = some true := by
    intro hc
    obtain ⟨l1, l2⟩ := isConf_len hc
    obtain ⟨t1, t2⟩ := tmod_in hx.1 hx.2 (show 0 < doms.length by omega)
    obtain ⟨i, hi⟩ : ∃ i, x.toNat % doms.length = i := ⟨_, rfl⟩
    rw [hi] at t1 t2
    obtain ⟨K5, h5⟩ := plan_f a b plans doms hd.1 i t2 n
    obtain ⟨K6, h6⟩ := rplan_f a b plans doms hd.1 i t2 n
    refine ⟨K5 + K6 + 3, fun k hk => ?_⟩
    obtain ⟨k, rfl⟩ : ∃ m, k = m + 2 := ⟨k - 2, by omega⟩
    have q5 := h5 (k + 1) (by omega)
    have q6 := h6 (k + 1) (by omega)
    obtain ⟨e1, r1, r2⟩ := rread_f a b plans doms i n t2 k
    obtain ⟨e2, s1, s2⟩ := rsend_f a b plans doms i n t2 k
    dsimp only at q5 q6
    simp only [tontinelaw20_CheckTells.j0]
    rw [if_neg (by decide), if_neg (by omega), t1]
    rw [r1, bind_some', code_f, bind_some', r2, bind_some', if_pos rfl]
    rw [s1, bind_some', code_f, bind_some', s2, bind_some', if_pos rfl]
    rw [q5, bind_some', code_f, bind_some', q6, bind_some', if_pos rfl]
    rw [level_f a b plans doms i t2, bind_some', code_f, bind_some', rlevel_f a b plans doms i t2, bind_some']
    simp
  by_cases hc : isConf a b plans doms = 0
  · obtain ⟨K4, h4⟩ := main hc
    refine ⟨K1 + K2 + K3 + K4 + 2, ?_⟩
    have q1 := h1 (K1 + K2 + K3 + K4 + 2) (by omega)
    have q2 := h2 (K1 + K2 + K3 + K4 + 2) (by omega)
    have q3 := h3 (K1 + K2 + K3 + K4 + 2) (by omega)
    dsimp only at q1 q2 q3
    unfold tontinelaw20_CheckTells.f
    rw [q1, bind_some', if_pos rfl, q2, bind_some']
    cases wideB plans doms with
    | true => rw [if_pos rfl]; simp only [tontinelaw20_CheckTells.j0]; rfl
    | false =>
      rw [if_neg (by decide), q3, bind_some', hc]
      exact h4 _ (by omega)
  · refine ⟨K1 + K2 + K3 + 2, ?_⟩
    have q1 := h1 (K1 + K2 + K3 + 2) (by omega)
    have q2 := h2 (K1 + K2 + K3 + 2) (by omega)
    have q3 := h3 (K1 + K2 + K3 + 2) (by omega)
    dsimp only at q1 q2 q3
    unfold tontinelaw20_CheckTells.f
    rw [q1, bind_some', if_pos rfl, q2, bind_some']
    cases wideB plans doms with
    | true => rw [if_pos rfl]; simp only [tontinelaw20_CheckTells.j0]; rfl
    | false =>
      have : (isConf a b plans doms != 0) = true := by simpa using hc
      rw [if_neg (by decide), q3, bind_some', this]; simp only [tontinelaw20_CheckTells.j0]; rfl
end Go.Proofs.YtbhfkhcedjgpdaaDoor.Pure
