/- How many letters of others wait changes nothing of whether one's own is kept: a sender has his own room: of every room, row of letters, sender. -/
import Derived.Test.YtpbcamdjcnokfaaPx9
import Derived.Test.YtpbcamdjcnokfaaMailR
namespace Go.Proofs.Ytpbcamdjcnokfaa.Pure
open Go Go.RowKit Go.Proofs.Ytpbcamdjcnokfaa Go.Proofs.Ytpbcamdjcnokfaa.P Go.Proofs.Ytpbcamdjcnokfaa.MailR Go.Proofs.YtpbcamdjcnokfaaW.PrintWords Go.Proofs.YtpbcamdjcnokfaaW.PrintLast Go.Proofs.YtpbcamdjcnokfaaW.PrintMore

theorem put_cnt (m : Nat) (l : List Let) (a b f : Int) : cnt (put m l a b) f = if a = f then min (cnt l f + 1) (max m (cnt l f)) else cnt l f := by
  unfold put
  by_cases h : cnt l a < m
  · rw [if_pos h, cnt_add]
    by_cases e : a = f
    · subst e; rw [if_pos rfl, if_pos rfl]; omega
    · rw [if_neg e, if_neg e]; rfl
  · rw [if_neg h]
    by_cases e : a = f
    · subst e; rw [if_pos rfl]; omega
    · rw [if_neg e]

theorem apart_l0 (l : List S61) (hl : l.length ≤ 80) (f : Int) (m : Nat) : ∀ (d i k n : Nat) (A B : List Let), i + d = l.length → d + 200 < k → n ≤ i → A.length ≤ i → B.length ≤ i → cnt A f = min n m → cnt B f = min n m → B.length = min n m →
    tontinelaw19_MailApart.l0 k l f (m : Int) (n : Int) (i : Int) A (m : Int) B (m : Int) = some true := by
  intro d
  induction d with
  | zero =>
    intro i k n A B hi hk hn hA hB h1 h2 h3
    obtain ⟨k, rfl⟩ : ∃ q, k = q + 1 := ⟨k - 1, by omega⟩
    simp only [tontinelaw19_MailApart.l0]
    have e : mn (n : Int) (m : Int) = ((min n m : Nat) : Int) := by unfold mn; split <;> omega
    rw [if_neg (by omega), waits_f A (by omega) f _ k (by omega), bind_some', e]
    dsimp only
    rw [if_pos (by rw [h1]), waits_f B (by omega) f _ k (by omega), bind_some']
    dsimp only
    rw [if_pos (by rw [h2]), len_f, bind_some', h3]
    simp
  | succ d ih =>
    intro i k n A B hi hk hn hA hB h1 h2 h3
    obtain ⟨k, rfl⟩ : ∃ q, k = q + 1 := ⟨k - 1, by omega⟩
    simp only [tontinelaw19_MailApart.l0]
    obtain ⟨s, hs⟩ : ∃ s, s = rd_T61 l (i : Int) := ⟨_, rfl⟩
    rw [if_pos (by omega), if_pos (by omega), ← hs, wrap_succ i (by omega)]
    by_cases hc : s.f0 > 2
    · rw [if_pos hc]
      exact ih (i + 1) k n A B (by omega) (by omega) (by omega) (by omega) (by omega) h1 h2 h3
    · have lA := put_len m A s.f1 s.f2
      have lB := put_len m B s.f1 s.f2
      rw [if_neg hc, put_f m A (by omega) _ _ k (by omega), bind_some']
      dsimp only
      by_cases hf : s.f1 = f
      · have e1 : (cnt A s.f1 < m) = (n < m) := by rw [hf, h1]; apply propext; omega
        have e2 : (cnt B s.f1 < m) = (n < m) := by rw [hf, h2]; apply propext; omega
        rw [if_pos hf, put_f m B (by omega) _ _ k (by omega), bind_some']
        dsimp only
        simp only [e1, e2]
        rw [if_neg (by simp), if_neg (by simp), wrap_succ n (by omega)]
        refine ih (i + 1) k (n + 1) _ _ (by omega) (by omega) (by omega) (by omega) (by omega) ?_ ?_ ?_
        · rw [put_cnt, if_pos hf, h1]; omega
        · rw [put_cnt, if_pos hf, h2]; omega
        · unfold put
          by_cases hq : cnt B s.f1 < m
          · have : n < m := by rw [← e2]; exact hq
            rw [if_pos hq, List.length_append, List.length_singleton, h3]; omega
          · have : ¬ n < m := by rw [← e2]; exact hq
            rw [if_neg hq, h3]; omega
      · rw [if_neg hf]
        refine ih (i + 1) k n _ B (by omega) (by omega) (by omega) (by omega) (by omega) ?_ h2 h3
        rw [put_cnt, if_neg hf, h1]

theorem MailApart : ∀ (x0 : Int) (x1 : List S61) (x2 : Int), (0 ≤ x0 ∧ x0 ≤ 255) → (x1.length ≤ 9223372036854775807 ∧ ∀ y ∈ x1, wf61 y) → (-9223372036854775808 ≤ x2 ∧ x2 ≤ 9223372036854775807) → ∃ k, tontinelaw19_MailApart.f k x0 x1 x2 = some true := by
  intro a l f ha hl hf
  obtain ⟨K, hK⟩ := known_f
  refine ⟨K + l.length + 210, ?_⟩
  have q := hK (K + l.length + 210) (by omega)
  dsimp only at q
  unfold tontinelaw19_MailApart.f
  rw [q, bind_some', if_pos rfl]
  by_cases h : (l.length : Int) > 80
  · rw [if_pos h]
  rw [if_neg h]
  obtain ⟨m, hk, hk1, hk2⟩ : ∃ m : Nat, wrap64 (wrap64 (Int.tmod a 8) + 1) = (m : Int) ∧ 1 ≤ m ∧ m ≤ 8 := by
    have h1 : Int.tmod a 8 = a % 8 := Int.tmod_eq_emod_of_nonneg ha.1
    rw [h1, wrap_in (n := a % 8) (by omega) (by omega), wrap_in (by omega) (by omega)]
    exact ⟨(a % 8 + 1).toNat, by omega, by omega, by omega⟩
  have hk' : mn (mx (m : Int) 1) 8 = (m : Int) := by
    unfold mx mn; (repeat' split) <;> omega
  unfold mail_New.f
  rw [hk, bind_some', bind_some', hk']
  exact apart_l0 l (by omega) f m l.length 0 (K + l.length + 210) 0 [] [] (by omega) (by omega) (Nat.le_refl _) (Nat.le_refl _) (Nat.le_refl _) (by simp [cnt]) (by simp [cnt]) (by simp)
end Go.Proofs.Ytpbcamdjcnokfaa.Pure
