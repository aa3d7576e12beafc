/- As many may be sent as the quota says, until it is filled again: of every quota, every row of sends and fillings. -/
import Derived.Test.YtpbcamdjcnokfaaPx10
import Derived.Test.YtpbcamdjcnokfaaPx4
import Derived.Test.YtpbcamdjcnokfaaMailR
namespace Go.Proofs.Ytpbcamdjcnokfaa.Pure
open Go Go.RowKit Go.Proofs.Ytpbcamdjcnokfaa Go.Proofs.Ytpbcamdjcnokfaa.P Go.Proofs.Ytpbcamdjcnokfaa.MailR Go.Proofs.YtpbcamdjcnokfaaW.PrintWords Go.Proofs.YtpbcamdjcnokfaaW.PrintLast Go.Proofs.YtpbcamdjcnokfaaW.PrintMore

theorem rdb_get (l : List Bool) (i : Nat) (h : i < l.length) : rdOf false l (i : Int) = l[i] := by
  simp [rdOf, List.getD_eq_getElem?_getD, List.getElem?_eq_getElem h]
theorem purse_l0 (l : List Bool) (hl : l.length ≤ 80) (m : Nat) (hm : m ≤ 8) : ∀ (d i k left : Nat), i + d = l.length → 2 * d < k → left ≤ m →
    tontinelaw19_MailPurse.l0 k l (m : Int) (left : Int) (i : Int) (left : Int) (m : Int) = some true := by
  intro d
  induction d with
  | zero =>
    intro i k left hi hk h
    obtain ⟨k, rfl⟩ : ∃ q, k = q + 1 := ⟨k - 1, by omega⟩
    simp only [tontinelaw19_MailPurse.l0]
    rw [if_neg (by omega)]
  | succ d ih =>
    intro i k left hi hk h
    obtain ⟨k, rfl⟩ : ∃ q, k = q + 2 := ⟨k - 2, by omega⟩
    simp only [tontinelaw19_MailPurse.l0]
    have hj : ∀ q : Nat, q ≤ m → tontinelaw19_MailPurse.j1 (k + 1) l (m : Int) (q : Int) (i : Int) (q : Int) (m : Int) = some true := by
      intro q hq
      simp only [tontinelaw19_MailPurse.j1]
      unfold mail_Purse_Left.f
      rw [bind_some', if_pos rfl, wrap_succ i (by omega)]
      exact ih (i + 1) k q (by omega) (by omega) hq
    rw [if_pos (by omega), if_pos (by omega), rdb_get l i (by omega)]
    by_cases hb : l[i] = true
    · rw [if_pos hb]
      unfold mail_Purse_Fill.f
      rw [bind_some']
      exact hj m (Nat.le_refl _)
    · rw [if_neg hb]
      unfold mail_Purse_Spend.f
      by_cases h0 : (left : Int) = 0
      · rw [if_pos h0, bind_some']
        have e : mx 0 (wrap64 ((left : Int) - 1)) = ((0 : Nat) : Int) := by
          rw [wrap_in (by omega) (by omega)]; unfold mx; split <;> omega
        have e0 : left = 0 := by omega
        subst e0
        dsimp only
        rw [if_neg (by simp), e]
        exact hj 0 (Nat.zero_le _)
      · rw [if_neg h0, bind_some']
        have e1 : wrap64 ((left : Int) - 1) = ((left - 1 : Nat) : Int) := by
          rw [wrap_in (by omega) (by omega)]; omega
        have e : mx 0 ((left - 1 : Nat) : Int) = ((left - 1 : Nat) : Int) := by
          unfold mx; split <;> omega
        dsimp only
        rw [if_neg (by simp; omega), e1, e]
        exact hj (left - 1) (by omega)

theorem MailPurse : ∀ (x0 : Int) (x1 : List Bool), (-9223372036854775808 ≤ x0 ∧ x0 ≤ 9223372036854775807) → (x1.length ≤ 9223372036854775807 ∧ ∀ y ∈ x1, True) → ∃ k, tontinelaw19_MailPurse.f k x0 x1 = some true := by
  intro a l ha hl
  obtain ⟨K, hK⟩ := known_f
  refine ⟨K + 2 * l.length + 10, ?_⟩
  have q := hK (K + 2 * l.length + 10) (by omega)
  dsimp only at q
  unfold tontinelaw19_MailPurse.f
  rw [q, bind_some', if_pos rfl]
  by_cases h : (l.length : Int) > 80
  · rw [if_pos h]
  rw [if_neg h]
  obtain ⟨m, hm, hm2⟩ : ∃ m : Nat, mx 0 (mn a 8) = (m : Int) ∧ m ≤ 8 := by
    refine ⟨(mx 0 (mn a 8)).toNat, ?_, ?_⟩ <;> (unfold mx mn; split <;> split <;> omega)
  have hm' : mn (mx a 0) 8 = (m : Int) := by
    rw [← hm]; unfold mx mn; (repeat' split) <;> omega
  unfold mail_Quota.f
  rw [bind_some', hm, hm']
  exact purse_l0 l (by omega) m hm2 l.length 0 (K + 2 * l.length + 10) m (by omega) (by omega) (Nat.le_refl _)
end Go.Proofs.Ytpbcamdjcnokfaa.Pure
