/- Letters come in the order in which they were put, as many as were kept, none twice: of every room, row of senders, row of takings. -/
import Derived.Test.YtpbcamdjcnokfaaPx11
import Derived.Test.YtpbcamdjcnokfaaMailR
namespace Go.Proofs.Ytpbcamdjcnokfaa.Pure
open Go Go.RowKit Go.Proofs.Ytpbcamdjcnokfaa Go.Proofs.Ytpbcamdjcnokfaa.P Go.Proofs.Ytpbcamdjcnokfaa.MailR Go.Proofs.YtpbcamdjcnokfaaW.PrintWords Go.Proofs.YtpbcamdjcnokfaaW.PrintLast Go.Proofs.YtpbcamdjcnokfaaW.PrintMore

theorem order_l0 (l : List Int) (t : List Bool) (hl : l.length ≤ 60) (m : Nat) : ∀ (d i k : Nat) (L : List Let), i + d = l.length → 6 * d + 200 < k → L.length ≤ i →
    tontinelaw19_MailOrder.l0 k l t L (i : Int) L (m : Int) = some true := by
  intro d
  induction d with
  | zero =>
    intro i k L hi hk hL
    obtain ⟨k, rfl⟩ : ∃ q, k = q + 1 := ⟨k - 1, by omega⟩
    simp only [tontinelaw19_MailOrder.l0]
    rw [if_neg (by omega)]
  | succ d ih =>
    intro i k L hi hk hL
    obtain ⟨k, rfl⟩ : ∃ q, k = q + 5 := ⟨k - 5, by omega⟩
    have h5 : ∀ (q : Nat) (M : List Let), k < q → M.length ≤ i + 1 → tontinelaw19_MailOrder.j5 q l t M (i : Int) M (m : Int) = some true := by
      intro q M hq hM
      obtain ⟨q, rfl⟩ : ∃ z, q = z + 1 := ⟨q - 1, by omega⟩
      simp only [tontinelaw19_MailOrder.j5]
      rw [len_f, bind_some']
      dsimp only
      rw [if_pos rfl, wrap_succ i (by omega)]
      exact ih (i + 1) q M (by omega) (by omega) hM
    have h3 : ∀ (M : List Let) (b : Bool), M.length ≤ i + 1 → tontinelaw19_MailOrder.j3 (k + 3) l t M (i : Int) b M (m : Int) = some true := by
      intro M b hM
      simp only [tontinelaw19_MailOrder.j3]
      cases b with
      | false => rw [if_neg (by decide)]; exact h5 (k + 2) M (by omega) hM
      | true =>
        rw [if_pos rfl]
        cases M with
        | nil =>
          have ht : mail_Box_Take.f ([] : List Let) (m : Int) = some (0, 0, false, []) := take_f [] _
          rw [ht, bind_some']
          dsimp only
          rw [if_neg (by simp), if_neg (by decide)]
          simp only [tontinelaw19_MailOrder.j4]
          rw [if_neg (by decide), if_neg (by decide)]
          exact h5 (k + 1) [] (by omega) (by simp)
        | cons x M =>
          have ht : mail_Box_Take.f (x :: M) (m : Int) = some (x.f0, x.f1, true, M) := take_f (x :: M) _
          have e0 : rd_T63 (x :: M) 0 = x := rfl
          rw [ht, bind_some']
          dsimp only
          have e1 : decide (((x :: M).length : Int) > 0) = true := decide_eq_true (by simp; try omega)
          rw [e1, if_neg (by decide), if_pos rfl, if_pos (by simp; try omega), e0]
          have eb : (!(x.f0 == x.f0) || !(x.f1 == x.f1)) = false := by simp
          rw [eb]
          simp only [tontinelaw19_MailOrder.j4]
          rw [if_neg (by decide), if_pos trivial, if_pos (by simp; try omega)]
          exact h5 (k + 1) M (by omega) (by simp at hM; omega)
    have h2 : ∀ (M : List Let), M.length ≤ i + 1 → tontinelaw19_MailOrder.j2 (k + 4) l t M (i : Int) M (m : Int) = some true := by
      intro M hM
      simp only [tontinelaw19_MailOrder.j2]
      by_cases h : (i : Int) < (t.length : Int)
      · rw [if_pos h, if_pos (by omega)]; exact h3 M _ hM
      · rw [if_neg h]; exact h3 M _ hM
    simp only [tontinelaw19_MailOrder.l0]
    obtain ⟨a, ha⟩ : ∃ a, a = wrap64 (Int.tmod (rd l (i : Int)) 4) := ⟨_, rfl⟩
    have lA := put_len m L a (i : Int)
    rw [if_pos (by omega), if_pos (by omega), ← ha, put_f m L (by omega) _ _ (k + 4) (by omega), bind_some']
    dsimp only
    by_cases hc : cnt L a < m
    · have ep : put m L a (i : Int) = L ++ [⟨a, (i : Int)⟩] := by unfold put; rw [if_pos hc]
      rw [if_pos (decide_eq_true hc), if_pos (by omega), ep]
      exact h2 _ (by simp; omega)
    · have ep : put m L a (i : Int) = L := by unfold put; rw [if_neg hc]
      rw [decide_eq_false hc, if_neg (by decide), ep]
      exact h2 _ (by omega)

theorem MailOrder : ∀ (x0 : Int) (x1 : List Int) (x2 : List Bool), (0 ≤ x0 ∧ x0 ≤ 255) → (x1.length ≤ 9223372036854775807 ∧ ∀ y ∈ x1, (0 ≤ y ∧ y ≤ 255)) → (x2.length ≤ 9223372036854775807 ∧ ∀ y ∈ x2, True) → ∃ k, tontinelaw19_MailOrder.f k x0 x1 x2 = some true := by
  intro a l t ha hl ht
  obtain ⟨K, hK⟩ := known_f
  refine ⟨K + 6 * l.length + 210 + 1, ?_⟩
  have q := hK (K + 6 * l.length + 210 + 1) (by omega)
  dsimp only at q
  unfold tontinelaw19_MailOrder.f
  rw [q, bind_some', if_pos rfl]
  by_cases h : (l.length : Int) > 60
  · rw [if_pos h]; simp only [tontinelaw19_MailOrder.j0]; rfl
  rw [if_neg h]
  by_cases h2 : (t.length : Int) > 60
  · rw [decide_eq_true h2]; simp only [tontinelaw19_MailOrder.j0]; rfl
  rw [decide_eq_false h2]
  simp only [tontinelaw19_MailOrder.j0]
  rw [if_neg (by decide)]
  obtain ⟨m, hk, hk1, hk2⟩ : ∃ m : Nat, wrap64 (wrap64 (Int.tmod a 8) + 1) = (m : Int) ∧ 1 ≤ m ∧ m ≤ 8 := by
    have h1 : Int.tmod a 8 = a % 8 := Int.tmod_eq_emod_of_nonneg ha.1
    rw [h1, wrap_in (n := a % 8) (by omega) (by omega), wrap_in (by omega) (by omega)]
    exact ⟨(a % 8 + 1).toNat, by omega, by omega, by omega⟩
  have hk' : mn (mx (m : Int) 1) 8 = (m : Int) := by
    unfold mx mn; (repeat' split) <;> omega
  unfold mail_New.f
  rw [hk, bind_some', hk']
  exact order_l0 l t (by omega) m l.length 0 (K + 6 * l.length + 210) [] (by omega) (by omega) (Nat.le_refl _)
end Go.Proofs.Ytpbcamdjcnokfaa.Pure
