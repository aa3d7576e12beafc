/- A ring has just the last few records, as many as it has room for, with numbers that rise by one: of every room, every row of at most sixty records. -/
import Derived.Test.YtpbcamdjcnokfaaPx10
import Derived.Test.YtpbcamdjcnokfaaRingR
namespace Go.Proofs.Ytpbcamdjcnokfaa.Pure
open Go Go.RowKit Go.Proofs.Ytpbcamdjcnokfaa Go.Proofs.Ytpbcamdjcnokfaa.P Go.Proofs.Ytpbcamdjcnokfaa.RingR Go.Proofs.YtpbcamdjcnokfaaW.PrintWords Go.Proofs.YtpbcamdjcnokfaaW.PrintLast Go.Proofs.YtpbcamdjcnokfaaW.PrintMore

theorem last_l1 (l a : List Rec) (n : Nat) (hn : n ≤ l.length) (ha : a.length = n) (hl : l.length ≤ 60)
    (hg : ∀ j (h : j < n), a[j]'(by omega) = ⟨((l.length - n + j + 1 : Nat) : Int), (l[l.length - n + j]'(by omega)).f1, (l[l.length - n + j]'(by omega)).f2, (l[l.length - n + j]'(by omega)).f3⟩) :
    ∀ (d j k : Nat), j + d = n → d < k → tontinelaw18_RingLast.l1 k l a (n : Int) (j : Int) = some true := by
  intro d
  induction d with
  | zero =>
    intro j k hj hk
    obtain ⟨k, rfl⟩ : ∃ m, k = m + 1 := ⟨k - 1, by omega⟩
    simp only [tontinelaw18_RingLast.l1]
    rw [if_neg (by omega)]
  | succ d ih =>
    intro j k hj hk
    obtain ⟨k, rfl⟩ : ∃ m, k = m + 1 := ⟨k - 1, by omega⟩
    have h := ih (j + 1) k (by omega) (by omega)
    simp only [tontinelaw18_RingLast.l1]
    have b1 : l.length ≤ 1099511627776 := by omega
    have b2 : l.length - n ≤ 1099511627776 := by omega
    have b3 : j ≤ 1099511627776 := by omega
    have b4 : l.length - n + j ≤ 1099511627776 := by omega
    have w0 := wrap_subN l.length n b1 hn
    have w1 := wrap_add (l.length - n) j b2 b3
    have w2 := wrap_succ (l.length - n + j) b4
    have w3 := wrap_succ j b3
    rw [w0, w1, w2, w3]
    clear w0 w1 w2 w3
    rw [if_pos (by omega), if_pos (by omega), if_pos (by omega), if_pos (by omega), if_pos (by omega), rd_get a j (by omega), rd_get l _ (by omega), hg j (by omega), h]
    simp

theorem last_l0 (l : List Rec) (k : Nat) (hk1 : 1 ≤ k) (hk2 : k ≤ 16) (hl : l.length ≤ 60) :
    ∀ (d i m : Nat) (L : List Rec), i + d = l.length → d + l.length + 2 < m → L.length = i →
      (∀ j (h : j < l.length) (h2 : j < L.length), L[j] = ⟨((j + 1 : Nat) : Int), (l[j]'(by omega)).f1, (l[j]'(by omega)).f2, (l[j]'(by omega)).f3⟩) →
      tontinelaw18_RingLast.l0 m l (k : Int) (i : Int) (keep k L) (k : Int) (L.length : Int) = some true := by
  intro d
  induction d with
  | zero =>
    intro i m L hi hm hL hg
    obtain ⟨m, rfl⟩ : ∃ q, m = q + 1 := ⟨m - 1, by omega⟩
    simp only [tontinelaw18_RingLast.l0]
    have kl := keep_len k L
    have hmn : mn (k : Int) (l.length : Int) = ((min k l.length : Nat) : Int) := by unfold mn; split <;> omega
    rw [if_neg (by omega), all_f _ (by omega), bind_some', hmn, if_pos (by rw [kl]; omega), last_f, bind_some', if_pos (by show (L.length : Int) = _; omega), lost_f k L (by omega), bind_some']
    have hw : wrap64 ((l.length : Int) - ((min k l.length : Nat) : Int)) = ((L.length - k : Nat) : Int) := by
      rw [wrap_subN l.length (min k l.length) (by omega) (by omega)]; congr 1; omega
    rw [hw]
    clear hw
    obtain ⟨m, rfl⟩ : ∃ q, m = q + 1 := ⟨m - 1, by omega⟩
    simp only [tontinelaw18_RingLast.j1]
    rw [if_neg (by simp)]
    have := last_l1 l (keep k L) (min k l.length) (by omega) (by omega) hl (fun j h => by
      have e : (keep k L)[j]'(by omega) = L[L.length - k + j]'(by omega) := by unfold keep; rw [List.getElem_drop]
      rw [e, hg _ (by omega) (by omega)]
      have e2 : L.length - k + j = l.length - min k l.length + j := by omega
      simp only [e2]) (min k l.length) 0 m (by omega) (by omega)
    exact this
  | succ d ih =>
    intro i m L hi hm hL hg
    obtain ⟨m, rfl⟩ : ∃ q, m = q + 1 := ⟨m - 1, by omega⟩
    simp only [tontinelaw18_RingLast.l0]
    have w3 := wrap_succ i (by omega)
    rw [if_pos (by omega), if_pos (by omega), add_f k hk1 L (by omega), bind_some', w3, rd_get l i (by omega)]
    clear w3
    have h := ih (i + 1) m (L ++ [⟨((L.length + 1 : Nat) : Int), l[i].f1, l[i].f2, l[i].f3⟩]) (by omega) (by omega) (by simp [hL]) (fun j h h2 => by
      by_cases hc : j < L.length
      · rw [List.getElem_append_left hc]; exact hg j (by omega) hc
      · have : j = L.length := by simp at h2; omega
        subst this
        rw [List.getElem_append_right (by omega)]
        simp only [Nat.sub_self, List.getElem_cons_zero, hL])
    rw [show (L ++ [(⟨((L.length + 1 : Nat) : Int), l[i].f1, l[i].f2, l[i].f3⟩ : Rec)]).length = L.length + 1 by simp] at h
    exact h

theorem RingLast : ∀ (x0 : Int) (x1 : List Rec), (-9223372036854775808 ≤ x0 ∧ x0 ≤ 9223372036854775807) → (x1.length ≤ 9223372036854775807 ∧ ∀ y ∈ x1, wf43 y) → ∃ k, tontinelaw18_RingLast.f k x0 x1 = some true := by
  intro a l ha hl
  refine ⟨2 * l.length + 20, ?_⟩
  unfold tontinelaw18_RingLast.f
  rw [known_f _ (by omega), bind_some', if_pos rfl]
  by_cases h : (l.length : Int) > 60
  · rw [if_pos h]
  rw [if_neg h]
  obtain ⟨k, hk, hk1, hk2⟩ : ∃ k : Nat, mx 1 (mn a 16) = (k : Int) ∧ 1 ≤ k ∧ k ≤ 16 := by
    refine ⟨(mx 1 (mn a 16)).toNat, ?_, ?_, ?_⟩ <;> (unfold mx mn; split <;> split <;> omega)
  have hk' : mn (mx a 1) 16 = (k : Int) := by
    rw [← hk]; unfold mx mn; (repeat' split) <;> omega
  unfold ring_New.f
  rw [bind_some', hk, hk']
  have h9 := last_l0 l k hk1 hk2 (by omega) l.length 0 (2 * l.length + 20) [] (by omega) (by omega) rfl (fun j h h2 => by simp at h2)
  rw [show keep k ([] : List Rec) = [] by simp [keep]] at h9
  exact h9
end Go.Proofs.Ytpbcamdjcnokfaa.Pure
