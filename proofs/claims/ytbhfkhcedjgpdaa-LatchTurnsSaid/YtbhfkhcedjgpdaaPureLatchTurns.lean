/- Two turns with nothing asked between are as one; what is refused counts for nothing: of every configuration, every row of askings. -/
import Derived.Test.YtbhfkhcedjgpdaaPx14
import Derived.Test.YtbhfkhcedjgpdaaLatchR
namespace Go.Proofs.Ytbhfkhcedjgpdaa.Pure
open Go Go.RowKit Go.Proofs.Ytbhfkhcedjgpdaa Go.Proofs.Ytbhfkhcedjgpdaa.P Go.Proofs.Ytbhfkhcedjgpdaa.Lab Go.Proofs.Ytbhfkhcedjgpdaa.ConfR Go.Proofs.Ytbhfkhcedjgpdaa.ConfS Go.Proofs.Ytbhfkhcedjgpdaa.LatchR Go.Proofs.YtbhfkhcedjgpdaaW.PrintWords Go.Proofs.YtbhfkhcedjgpdaaW.PrintLast Go.Proofs.YtbhfkhcedjgpdaaW.PrintMore

theorem lt_l0 (a b : Int) (plans : List (List Int)) (doms : List S44) (hn : doms.length ≤ 10) (l : List S63) (hl : l.length ≤ 40) : ∀ (d i k : Nat) (hp : Int) (hls : List Int) (ap : Int) (al : List Int), i + d = l.length → d + 60 < k → hls.length = doms.length → al.length = doms.length →
    tontinelaw15_LatchTurns.l0 k l (i : Int) a b plans doms a b plans doms hp hls ap al a b plans doms hp hls ap al = some true := by
  intro d
  induction d with
  | zero =>
    intro i k hp hls ap al hi hk h1 h2
    obtain ⟨k, rfl⟩ : ∃ m, k = m + 1 := ⟨k - 1, by omega⟩
    simp only [tontinelaw15_LatchTurns.l0]
    rw [if_neg (by omega), turn_f a b plans doms hp hls ap al (by omega) (by omega) k (by omega), Lab.bind_some', Lab.bind_some']
    dsimp only
    rw [plan_f, Lab.bind_some']
    dsimp only
    rw [levels_f a b plans doms _ _ _ _ (by omega), Lab.bind_some']
    dsimp only
    rw [turn_f a b plans doms ap al ap al rfl (by omega) k (by omega), Lab.bind_some', Lab.bind_some']
    dsimp only
    rw [if_pos rfl, plan_f, Lab.bind_some']
    dsimp only
    rw [if_pos rfl, levels_f a b plans doms _ _ _ _ (by omega), Lab.bind_some']
    dsimp only
    rw [ConfS.same_f al (by omega) k (by omega), Lab.bind_some', if_pos rfl, Lab.bind_some']
    dsimp only
    rw [ConfS.same_f al (by omega) k (by omega), Lab.bind_some', if_pos rfl, h2]
    simp
  | succ d ih =>
    intro i k hp hls ap al hi hk h1 h2
    obtain ⟨k, rfl⟩ : ∃ m, k = m + 1 := ⟨k - 1, by omega⟩
    simp only [tontinelaw15_LatchTurns.l0]
    obtain ⟨s, hs⟩ : ∃ s, s = rd_T63 l (i : Int) := ⟨_, rfl⟩
    rw [if_pos (by omega), if_pos (by omega), ← hs, ConfR.wrap_succ (n := l.length) (by omega) (by omega)]
    by_cases h : s.f0 ≤ 1
    · rw [if_pos h, askPlan_f, Lab.bind_some', Lab.bind_some']
      dsimp only
      cases hq : (askP plans ap s.f2).1.isNone with
      | true => rw [if_pos rfl]; exact ih (i + 1) k _ _ _ _ (by omega) (by omega) h1 h2
      | false =>
        rw [if_neg (by decide), askP_kept plans hq]
        exact ih (i + 1) k _ _ _ _ (by omega) (by omega) h1 h2
    · rw [if_neg h]
      obtain ⟨k, rfl⟩ : ∃ m, k = m + 1 := ⟨k - 1, by omega⟩
      rw [askLevel_f a b plans doms hp hls ap al h2, Lab.bind_some', Lab.bind_some']
      dsimp only
      cases hq : (askL doms al s.f1 s.f2).1.isNone with
      | true => rw [if_pos rfl]; exact ih (i + 1) (k + 1) _ _ _ _ (by omega) (by omega) h1 ((askL_len ..).trans h2)
      | false =>
        rw [if_neg (by decide), askL_kept doms hq]
        exact ih (i + 1) (k + 1) _ _ _ _ (by omega) (by omega) h1 h2

theorem LatchTurns : ∀ (x0 : S25) (x1 : List S63), wf25 x0 → (x1.length ≤ 9223372036854775807 ∧ ∀ y ∈ x1, wf63 y) → ∃ k, tontinelaw15_LatchTurns.f k x0.f0 x0.f1 x0.f2 x0.f3 x1 = some true := by
  rintro ⟨a, b, plans, doms⟩ l hw hl
  obtain ⟨_, _, hp, hd⟩ := hw
  dsimp only at hp hd ⊢
  have hdr : ∀ d ∈ doms, d.f1.length ≤ 9223372036854775807 ∧ d.f2.length ≤ 9223372036854775807 := fun d h => ⟨(hd.2 d h).2.1.1, (hd.2 d h).2.2.1.1⟩
  obtain ⟨K1, h1⟩ := known_f
  obtain ⟨K2, h2⟩ := wide_f a b plans doms hp.1 hd.1 (fun d h => (hdr d h).1)
  obtain ⟨K3, h3⟩ := isConf_f a b plans doms hp.1 (fun p h => (hp.2 p h).1) hd.1 hdr
  refine ⟨K1 + K2 + K3 + 200 + 1, ?_⟩
  have q1 := h1 (K1 + K2 + K3 + 200 + 1) (by omega)
  have q2 := h2 (K1 + K2 + K3 + 200 + 1) (by omega)
  have q3 := h3 (K1 + K2 + K3 + 200 + 1) (by omega)
  dsimp only at q1 q2 q3
  unfold tontinelaw15_LatchTurns.f
  rw [q1, Lab.bind_some', if_pos rfl, q2, Lab.bind_some']
  cases hwd : wideB plans doms with
  | true => rw [if_pos rfl]; simp only [tontinelaw15_LatchTurns.j0]; rfl
  | false =>
    rw [if_neg (by decide), q3, Lab.bind_some']
    by_cases hc : isConf a b plans doms = 0
    · rw [if_pos hc]
      by_cases h40 : (l.length : Int) > 40
      · rw [decide_eq_true h40]; simp only [tontinelaw15_LatchTurns.j0]; rfl
      rw [decide_eq_false h40]
      have hn := (wide_len hwd).1
      simp only [tontinelaw15_LatchTurns.j0]
      rw [if_neg (by decide), new_f a b plans doms hn, Lab.bind_some', Lab.bind_some']
      dsimp only
      exact lt_l0 a b plans doms hn l (by omega) l.length 0 _ _ _ _ _ (by omega) (by omega) (by simp) (by simp)
    · rw [if_neg hc]; simp only [tontinelaw15_LatchTurns.j0]; rfl
end Go.Proofs.Ytbhfkhcedjgpdaa.Pure
