/- Who reads on from what he read last sees each record that is there still once, in order; what he doesn't see was lost: of every room, every row of at most a hundred steps. -/
import Derived.Test.YtpbcamdjcnokfaaPx9
import Derived.Test.YtpbcamdjcnokfaaRingR
namespace Go.Proofs.Ytpbcamdjcnokfaa.Pure
open Go Go.RowKit Go.Proofs.Ytpbcamdjcnokfaa Go.Proofs.Ytpbcamdjcnokfaa.P Go.Proofs.Ytpbcamdjcnokfaa.RingR Go.Proofs.YtpbcamdjcnokfaaW.PrintWords Go.Proofs.YtpbcamdjcnokfaaW.PrintLast Go.Proofs.YtpbcamdjcnokfaaW.PrintMore

theorem rdb_get (l : List Bool) (i : Nat) (h : i < l.length) : rdOf false l (i : Int) = l[i] := by
  simp [rdOf, List.getD_eq_getElem?_getD, List.getElem?_eq_getElem h]

theorem reads_l0 (l : List Bool) (k : Nat) (hk1 : 1 ≤ k) (hk2 : k ≤ 16) (hl : l.length ≤ 100) :
    ∀ (d i m seen at_ : Nat) (L : List Rec), i + d = l.length → d + 120 < m → L.length ≤ i → Num L → seen ≤ at_ → at_ ≤ L.length →
      tontinelaw18_RingReads.l0 m l (k : Int) (L.length : Int) (seen : Int) (at_ : Int) (i : Int) (keep k L) (k : Int) (L.length : Int) = some true := by
  intro d
  induction d with
  | zero =>
    intro i m seen at_ L hi hm hL hn hs ha
    obtain ⟨m, rfl⟩ : ∃ q, m = q + 1 := ⟨m - 1, by omega⟩
    simp only [tontinelaw18_RingReads.l0]
    rw [if_neg (by omega), if_pos (by omega), last_f, bind_some', if_pos rfl, lost_f k L (by omega), bind_some']
    have hw : wrap64 ((L.length : Int) - (k : Int)) = (L.length : Int) - (k : Int) := wrap_in (by omega) (by omega)
    have hm : mx 0 ((L.length : Int) - (k : Int)) = ((L.length - k : Nat) : Int) := by unfold mx; split <;> omega
    rw [hw, hm]
    simp
  | succ d ih =>
    intro i m seen at_ L hi hm hL hn hs ha
    obtain ⟨m, rfl⟩ : ∃ q, m = q + 1 := ⟨m - 1, by omega⟩
    simp only [tontinelaw18_RingReads.l0]
    have b1 : seen ≤ 100 := by omega
    have b2 : at_ ≤ 100 := by omega
    have b3 : L.length ≤ 100 := by omega
    have b4 : i ≤ 100 := by omega
    have w3 := wrap_succ i (Nat.le_trans b4 (by decide))
    have w4 := wrap_succ L.length (Nat.le_trans b3 (by decide))
    have w5 := wrap_succ at_ (Nat.le_trans b2 (by decide))
    have w6 := wrap_succ seen (Nat.le_trans b1 (by decide))
    have w7 := wrap_sub L.length k (Nat.le_trans b3 (by decide)) (Nat.le_trans hk2 (by decide))
    have w8 := wrap_sub1 L.length k (Nat.le_trans b3 (by decide)) (Nat.le_trans hk2 (by decide))
    rw [if_pos (by omega), if_pos (by omega), rdb_get l i (by omega), w3, w4, w5, w6, w7, w8]
    clear w3 w4 w5 w6 w7 w8
    by_cases hb : l[i] = true
    · rw [if_pos hb, add_f k hk1 L (by omega), bind_some']
      have h := ih (i + 1) m seen at_ (L ++ [⟨((L.length + 1 : Nat) : Int), (i : Int), 1, 0⟩]) (by omega) (by omega) (by simp; omega) (hn.add _ _ _) hs (by simp; omega)
      rw [show (L ++ [(⟨((L.length + 1 : Nat) : Int), (i : Int), 1, 0⟩ : Rec)]).length = L.length + 1 by simp] at h
      exact h
    · rw [if_neg hb, from_f _ (by rw [keep_len]; omega) _ _ _ m (by rw [keep_len]; omega), bind_some', find_keep hn k hk1 at_ ha]
      by_cases hh : at_ < L.length
      · rw [dif_pos hh]
        have e0 : (found (some (L[max at_ (L.length - k)]'(by omega)))).1 = ((max at_ (L.length - k) + 1 : Nat) : Int) := by
          show (L[max at_ (L.length - k)]'(by omega)).f0 = _
          rw [hn]; omega
        have e1 : (found (some (L[max at_ (L.length - k)]'(by omega)))).2.2.2.2 = true := rfl
        have e2 : mx ((at_ + 1 : Nat) : Int) ((L.length : Int) - (k : Int) + 1) = ((max at_ (L.length - k) + 1 : Nat) : Int) := by unfold mx; split <;> omega
        dsimp only
        rw [e0, e1, e2, if_neg (by simpa using hh), if_pos rfl, if_neg (by omega), if_pos rfl]
        exact ih (i + 1) m (seen + 1) (max at_ (L.length - k) + 1) L (by omega) (by omega) (by omega) hn (by omega) (by omega)
      · rw [dif_neg hh]
        have e1 : (found none).2.2.2.2 = false := rfl
        dsimp only
        rw [e1, if_neg (by simp; omega), if_neg (by decide)]
        exact ih (i + 1) m seen at_ L (by omega) (by omega) (by omega) hn hs ha

theorem RingReads : ∀ (x0 : Int) (x1 : List Bool), (0 ≤ x0 ∧ x0 ≤ 255) → (x1.length ≤ 9223372036854775807 ∧ ∀ y ∈ x1, True) → ∃ k, tontinelaw18_RingReads.f k x0 x1 = some true := by
  intro a l ha hl
  refine ⟨l.length + 140, ?_⟩
  unfold tontinelaw18_RingReads.f
  rw [known_f _ (by omega), bind_some', if_pos rfl]
  by_cases h : (l.length : Int) > 100
  · rw [if_pos h]
  rw [if_neg h]
  obtain ⟨k, hk, hk1, hk2⟩ : ∃ k : Nat, wrap64 (wrap64 (Int.tmod a 16) + 1) = (k : Int) ∧ 1 ≤ k ∧ k ≤ 16 := by
    have h1 : Int.tmod a 16 = a % 16 := Int.tmod_eq_emod_of_nonneg ha.1
    rw [h1, wrap_in (n := a % 16) (by omega) (by omega), wrap_in (by omega) (by omega)]
    exact ⟨(a % 16 + 1).toNat, by omega, by omega, by omega⟩
  have hk' : mn (mx (k : Int) 1) 16 = (k : Int) := by
    unfold mx mn; (repeat' split) <;> omega
  unfold ring_New.f
  rw [hk, bind_some', hk']
  have h9 := reads_l0 l k hk1 hk2 (by omega) l.length 0 (l.length + 140) 0 0 [] (by omega) (by omega) (by simp) (fun j h => by simp at h) (Nat.le_refl _) (Nat.zero_le _)
  rw [show keep k ([] : List Rec) = [] by simp [keep]] at h9
  exact h9
end Go.Proofs.Ytpbcamdjcnokfaa.Pure
