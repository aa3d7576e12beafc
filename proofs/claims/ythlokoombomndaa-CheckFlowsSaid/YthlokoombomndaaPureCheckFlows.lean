/- Who may read another one's, that one may send to him; both may with each other just if their labels are the same: of every configuration and two domains. -/
import Derived.Test.YthlokoombomndaaErrIs
import Derived.Test.YthlokoombomndaaPx13
import Derived.Test.YthlokoombomndaaCheckB
namespace Go.Proofs.Ythlokoombomndaa.Pure
open Go Go.RowKit Go.Proofs.Ythlokoombomndaa Go.Proofs.Ythlokoombomndaa.P Go.Proofs.Ythlokoombomndaa.Bits64 Go.Proofs.Ythlokoombomndaa.Lab Go.Proofs.Ythlokoombomndaa.ConfR Go.Proofs.Ythlokoombomndaa.CheckB Go.Proofs.YthlokoombomndaaW.PrintWords Go.Proofs.YthlokoombomndaaW.PrintLast Go.Proofs.YthlokoombomndaaW.PrintMore

theorem leq_both {a0 a1 b0 b1 : Int} (ha : 0 ≤ a1 ∧ a1 ≤ 18446744073709551615) (hb : 0 ≤ b1 ∧ b1 ≤ 18446744073709551615) (h : leqB b0 b1 a0 a1 = true) :
    leqB a0 a1 b0 b1 = (a0 == b0 && a1 == b1) := by
  obtain ⟨h1, h2⟩ := (leqB_iff ..).1 h
  cases e : leqB a0 a1 b0 b1 with
  | true =>
    obtain ⟨g1, g2⟩ := (leqB_iff ..).1 e
    have := Sub.antisymm h2 g2
    have e1 : a1 = b1 := by rw [← I_B ha.1 ha.2, ← I_B hb.1 hb.2, this]
    simp [e1]; omega
  | false =>
    cases q : (a0 == b0 && a1 == b1) with
    | false => rfl
    | true =>
      simp only [Bool.and_eq_true, beq_iff_eq] at q
      obtain ⟨rfl, rfl⟩ := q
      rw [h] at e; cases e
theorem leq_not {a0 a1 b0 b1 : Int} (h : leqB b0 b1 a0 a1 = false) : (a0 == b0 && a1 == b1) = false := by
  cases q : (a0 == b0 && a1 == b1) with
  | false => rfl
  | true =>
    simp only [Bool.and_eq_true, beq_iff_eq] at q
    obtain ⟨rfl, rfl⟩ := q
    have : leqB a0 a1 a0 a1 = true := (leqB_iff ..).2 ⟨by omega, Sub.refl _⟩
    rw [h] at this; cases this
theorem CheckFlows : ∀ (x0 : S25) (x1 : Int) (x2 : Int), wf25 x0 → (0 ≤ x1 ∧ x1 ≤ 255) → (0 ≤ x2 ∧ x2 ≤ 255) → ∃ k, tontinelaw20_CheckFlows.f k x0.f0 x0.f1 x0.f2 x0.f3 x1 x2 = some true := by
  rintro ⟨a, b, plans, doms⟩ x y hw hx hy
  obtain ⟨_, _, hp, hd⟩ := hw
  dsimp only at hp hd ⊢
  have hdr : ∀ d ∈ doms, d.f1.length ≤ 9223372036854775807 ∧ d.f2.length ≤ 9223372036854775807 := fun d h => ⟨(hd.2 d h).2.1.1, (hd.2 d h).2.2.1.1⟩
  obtain ⟨K1, h1⟩ := known_f
  obtain ⟨K2, h2⟩ := wide_f a b plans doms hp.1 hd.1 (fun d h => (hdr d h).1)
  obtain ⟨K3, h3⟩ := isConf_f a b plans doms hp.1 (fun p h => (hp.2 p h).1) hd.1 hdr
  have main : isConf a b plans doms = 0 → ∀ k, 3 ≤ k → tontinelaw20_CheckFlows.j0 k x y false a b plans doms = some true := by
    intro hc k hk
    obtain ⟨l1, l2⟩ := isConf_len hc
    obtain ⟨t1, t2⟩ := tmod_in hx.1 hx.2 (show 0 < doms.length by omega)
    obtain ⟨u1, u2⟩ := tmod_in hy.1 hy.2 (show 0 < doms.length by omega)
    obtain ⟨i, hi⟩ : ∃ i, x.toNat % doms.length = i := ⟨_, rfl⟩
    obtain ⟨j, hj⟩ : ∃ j, y.toNat % doms.length = j := ⟨_, rfl⟩
    rw [hi] at t1 t2
    rw [hj] at u1 u2
    obtain ⟨k, rfl⟩ : ∃ m, k = m + 3 := ⟨k - 3, by omega⟩
    have wi := (hd.2 _ (List.getElem_mem t2)).1.2
    have wj := (hd.2 _ (List.getElem_mem u2)).1.2
    rw [← rdD_nat doms i t2] at wi
    rw [← rdD_nat doms j u2] at wj
    simp only [tontinelaw20_CheckFlows.j0]
    rw [if_neg (by decide), if_neg (by omega), t1, u1, if_pos (by omega), if_pos (by omega), if_pos (by omega), if_pos (by omega), read_f a b plans doms i j t2 u2, bind_some', send_f a b plans doms j i u2 t2, bind_some', bind_some']
    cases hl : leqB (rd_T44 doms j).f0.f0 (rd_T44 doms j).f0.f1 (rd_T44 doms i).f0.f0 (rd_T44 doms i).f0.f1 with
    | true =>
      have e1 : flowE doms j i = none := by unfold flowE; rw [if_pos hl]
      rw [e1, if_pos (by decide), if_pos (by decide)]
      simp only [tontinelaw20_CheckFlows.j1]
      rw [if_pos (by decide), rleq_f, bind_some', hl, if_pos (by decide), if_pos (by decide), read_f a b plans doms j i u2 t2, bind_some', ← leq_both wi wj hl]
      unfold flowE
      cases leqB (rd_T44 doms i).f0.f0 (rd_T44 doms i).f0.f1 (rd_T44 doms j).f0.f0 (rd_T44 doms j).f0.f1 <;> rfl
    | false =>
      have e1 : flowE doms j i = some 15 := by unfold flowE; rw [if_neg (by rw [hl]; decide)]
      rw [e1, if_neg (by decide), if_neg (by decide)]
      simp only [tontinelaw20_CheckFlows.j1]
      rw [if_pos (by decide), rleq_f, bind_some', hl, if_pos (by decide), if_neg (by decide), leq_not hl]
      rfl
  obtain ⟨K, hK⟩ : ∃ K, K = K1 + K2 + K3 + 5 := ⟨_, rfl⟩
  refine ⟨K, ?_⟩
  have q1 := h1 K (by omega)
  have q2 := h2 K (by omega)
  have q3 := h3 K (by omega)
  dsimp only at q1 q2 q3
  unfold tontinelaw20_CheckFlows.f
  rw [q1, bind_some', if_pos rfl, q2, bind_some']
  obtain ⟨K', rfl⟩ : ∃ m, K = m + 1 := ⟨K - 1, by omega⟩
  cases wideB plans doms with
  | true => rw [if_pos rfl]; simp only [tontinelaw20_CheckFlows.j0]; rfl
  | false =>
    rw [if_neg (by decide), q3, bind_some']
    by_cases hc : isConf a b plans doms = 0
    · rw [hc]; exact main hc _ (by omega)
    · have : (isConf a b plans doms != 0) = true := by simpa using hc
      rw [this]; simp only [tontinelaw20_CheckFlows.j0]; rfl
end Go.Proofs.Ythlokoombomndaa.Pure
