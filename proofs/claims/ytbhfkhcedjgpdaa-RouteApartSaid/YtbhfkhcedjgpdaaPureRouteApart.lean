/- Whose turn it is hangs on how often that domain was offered alone, whatever was offered of others between: of every configuration, row of offers, domain. -/
import Derived.Test.YtbhfkhcedjgpdaaPx18
import Derived.Test.YtbhfkhcedjgpdaaRouteR
namespace Go.Proofs.Ytbhfkhcedjgpdaa.Pure
open Go Go.RowKit Go.Proofs.Ytbhfkhcedjgpdaa Go.Proofs.Ytbhfkhcedjgpdaa.P Go.Proofs.Ytbhfkhcedjgpdaa.Lab Go.Proofs.Ytbhfkhcedjgpdaa.ConfR Go.Proofs.Ytbhfkhcedjgpdaa.ConfS Go.Proofs.Ytbhfkhcedjgpdaa.RouteR Go.Proofs.YtbhfkhcedjgpdaaW.PrintWords Go.Proofs.YtbhfkhcedjgpdaaW.PrintLast Go.Proofs.YtbhfkhcedjgpdaaW.PrintMore

section
variable (a b : Int) (plans : List (List Int)) (doms : List S44)
theorem cur_eq (c c' : Nat → Nat) (d : Nat) (h : c d = c' d) : cur doms c d = cur doms c' d := by unfold cur; rw [h]
theorem up_other (c : Nat → Nat) (d e : Nat) (h : e ≠ d) : up doms c e d = c d := by
  have : ¬ (d = e ∧ 0 < (rts doms e).length) := fun q => h q.1.symm
  simp only [up, if_neg this]
theorem up_same (c c' : Nat → Nat) (d : Nat) (h : c d = c' d) : up doms c d d = up doms c' d d := by
  simp only [up, h]

theorem ra_l0 (hS : Small doms) (l : List Int) (hl : l.length ≤ 60) (hw : ∀ y ∈ l, (0 ≤ y ∧ y ≤ 255)) (hn : 0 < doms.length) (d : Nat) (hd : d < doms.length) :
    ∀ (q i k : Nat) (c c' : Nat → Nat), i + q = l.length → q + 60 < k → c d = c' d →
      tontinelaw16_RouteApart.l0 k l (d : Int) (i : Int) a b plans doms a b plans doms (tl doms c) a b plans doms (tl doms c') = some true := by
  intro q
  induction q with
  | zero =>
    intro i k c c' hi hk hc
    obtain ⟨k, rfl⟩ : ∃ m, k = m + 1 := ⟨k - 1, by omega⟩
    simp only [tontinelaw16_RouteApart.l0]
    rw [if_neg (by omega), turn_f a b plans doms c d hd, Lab.bind_some']
    dsimp only
    rw [turn_f a b plans doms c' d hd, Lab.bind_some', hc]
    dsimp only
    rw [if_pos rfl, now_f a b plans doms c hS d hd, Lab.bind_some']
    dsimp only
    rw [now_f a b plans doms c' hS d hd, Lab.bind_some', cur_eq doms c c' d hc]
    have hcl := cur_len hS c' d hd
    dsimp only
    rw [ConfS.same_f _ (by omega) k (by omega), Lab.bind_some']
  | succ q ih =>
    intro i k c c' hi hk hc
    obtain ⟨k, rfl⟩ : ∃ m, k = m + 1 := ⟨k - 1, by omega⟩
    simp only [tontinelaw16_RouteApart.l0]
    have hy := hw l[i] (List.getElem_mem _)
    obtain ⟨t1, t2⟩ := ConfS.tmod_in hy.1 hy.2 hn
    obtain ⟨e, he⟩ : ∃ e, l[i].toNat % doms.length = e := ⟨_, rfl⟩
    rw [he] at t1 t2
    rw [if_pos (by omega), if_pos (by omega), if_neg (by omega), rd_nat l i (by omega), t1, offer_f a b plans doms c hS e t2, Lab.bind_some', ConfR.wrap_succ (n := l.length) (by omega) (by omega)]
    dsimp only
    by_cases h : e = d
    · subst h
      rw [if_pos rfl, offer_f a b plans doms c' hS e t2, Lab.bind_some', cur_eq doms c c' e hc]
      have hcl := cur_len hS c' e t2
      dsimp only
      rw [ConfS.same_f _ (by omega) k (by omega), Lab.bind_some', if_pos rfl]
      exact ih (i + 1) k _ _ (by omega) (by omega) (up_same doms c c' e hc)
    · rw [if_neg (by omega)]
      exact ih (i + 1) k _ _ (by omega) (by omega) ((up_other doms c d e h).trans hc)
end

theorem RouteApart : ∀ (x0 : S25) (x1 : List Int) (x2 : Int), wf25 x0 → (x1.length ≤ 9223372036854775807 ∧ ∀ y ∈ x1, (0 ≤ y ∧ y ≤ 255)) → (0 ≤ x2 ∧ x2 ≤ 255) → ∃ k, tontinelaw16_RouteApart.f k x0.f0 x0.f1 x0.f2 x0.f3 x1 x2 = some true := by
  rintro ⟨a, b, plans, doms⟩ l x hw hl hx
  obtain ⟨_, _, hp, hd⟩ := hw
  dsimp only at hp hd ⊢
  have hdr : ∀ d ∈ doms, d.f1.length ≤ 9223372036854775807 ∧ d.f2.length ≤ 9223372036854775807 := fun d h => ⟨(hd.2 d h).2.1.1, (hd.2 d h).2.2.1.1⟩
  obtain ⟨K1, h1⟩ := known_f
  obtain ⟨K2, h2⟩ := wide_f a b plans doms hp.1 hd.1 (fun d h => (hdr d h).1)
  obtain ⟨K3, h3⟩ := isConf_f a b plans doms hp.1 (fun p h => (hp.2 p h).1) hd.1 hdr
  refine ⟨K1 + K2 + K3 + 200 + 1, ?_⟩
  have q1 := h1 (K1 + K2 + K3 + 200 + 1) (by omega)
  have q2 := h2 (K1 + K2 + K3 + 200 + 1) (by omega)
  have q3 := h3 (K1 + K2 + K3 + 200 + 1) (by omega)
  dsimp only at q1 q2 q3
  unfold tontinelaw16_RouteApart.f
  rw [q1, Lab.bind_some', if_pos rfl, q2, Lab.bind_some']
  cases hwd : wideB plans doms with
  | true => rw [if_pos rfl]; simp only [tontinelaw16_RouteApart.j0]; rfl
  | false =>
    rw [if_neg (by decide), q3, Lab.bind_some']
    by_cases hc : isConf a b plans doms = 0
    · rw [if_pos hc]
      by_cases h60 : (l.length : Int) > 60
      · rw [decide_eq_true h60]; simp only [tontinelaw16_RouteApart.j0]; rfl
      rw [decide_eq_false h60]
      obtain ⟨l1, l2⟩ := ConfS.isConf_len hc
      have hS := small_of hwd
      obtain ⟨t1, t2⟩ := ConfS.tmod_in hx.1 hx.2 (show 0 < doms.length by omega)
      obtain ⟨i, hi⟩ : ∃ i, x.toNat % doms.length = i := ⟨_, rfl⟩
      rw [hi] at t1 t2
      simp only [tontinelaw16_RouteApart.j0]
      rw [if_neg (by decide), new_f a b plans doms hS.n, Lab.bind_some', Lab.bind_some', t1]
      dsimp only
      rw [if_neg (by omega)]
      exact ra_l0 a b plans doms hS l (by omega) hl.2 (by omega) i t2 l.length 0 _ _ _ (by omega) (by omega) rfl
    · rw [if_neg hc]; simp only [tontinelaw16_RouteApart.j0]; rfl
end Go.Proofs.Ytbhfkhcedjgpdaa.Pure
