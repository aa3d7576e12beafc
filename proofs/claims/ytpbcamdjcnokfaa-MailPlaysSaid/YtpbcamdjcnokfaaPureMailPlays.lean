/- Every row of letters put and taken: which are lost, what comes, how many wait, behind each: the program's box tells what the document's tells. -/
import Derived.Test.YtpbcamdjcnokfaaPx5
import Derived.Test.YtpbcamdjcnokfaaPx6
import Derived.Test.YtpbcamdjcnokfaaPx7
import Derived.Test.YtpbcamdjcnokfaaPx8
import Derived.Test.YtpbcamdjcnokfaaMailR
namespace Go.Proofs.Ytpbcamdjcnokfaa.Pure
open Go Go.RowKit Go.Proofs.Ytpbcamdjcnokfaa Go.Proofs.Ytpbcamdjcnokfaa.P Go.Proofs.Ytpbcamdjcnokfaa.MailR Go.Proofs.YtpbcamdjcnokfaaW.PrintWords Go.Proofs.YtpbcamdjcnokfaaW.PrintLast Go.Proofs.YtpbcamdjcnokfaaW.PrintMore

theorem rwaits_l (l : List Let) (hl : l.length ≤ 1000) (f r : Int) : ∀ (d i n k : Nat), i + d = l.length → d < k → n ≤ i → tontineref15_Box_Waits.l0 k f (n : Int) (i : Int) r l = some (((n + cnt (l.drop i) f : Nat) : Int), l) := by
  intro d
  induction d with
  | zero =>
    intro i n k hi hk hn
    obtain ⟨k, rfl⟩ : ∃ m, k = m + 1 := ⟨k - 1, by omega⟩
    simp only [tontineref15_Box_Waits.l0]
    rw [if_neg (by omega), List.drop_eq_nil_of_le (by omega)]
    rfl
  | succ d ih =>
    intro i n k hi hk hn
    obtain ⟨k, rfl⟩ : ∃ m, k = m + 1 := ⟨k - 1, by omega⟩
    simp only [tontineref15_Box_Waits.l0]
    rw [if_pos (by omega), if_pos (by omega), rd_get l i (by omega), wrap_succ i (by omega), wrap_succ n (by omega), List.drop_eq_getElem_cons (show i < l.length by omega)]
    unfold cnt
    by_cases h : l[i].f0 = f
    · rw [if_pos h, ih (i + 1) (n + 1) k (by omega) (by omega) (by omega), List.countP_cons_of_pos (by simpa using h)]
      unfold cnt
      congr 2; omega
    · rw [if_neg h, ih (i + 1) n k (by omega) (by omega) (by omega), List.countP_cons_of_neg (by simpa using h)]
      rfl
theorem rwaits_f (l : List Let) (hl : l.length ≤ 1000) (f r : Int) (k : Nat) (hk : l.length < k) : tontineref15_Box_Waits.f k r l f = some ((cnt l f : Int), l) := by
  have h := rwaits_l l hl f r l.length 0 0 k (by omega) hk (Nat.le_refl _)
  rw [List.drop_zero, Nat.zero_add] at h
  exact h
theorem rput_f (m : Nat) (l : List Let) (hl : l.length ≤ 1000) (a b : Int) (k : Nat) (hk : l.length < k) : tontineref15_Box_Put.f k (m : Int) l a b = some (decide (cnt l a < m), put m l a b) := by
  unfold tontineref15_Box_Put.f put
  rw [rwaits_f l hl a _ k hk, bind_some']
  by_cases h : cnt l a < m
  · rw [if_neg (by show ¬ ((cnt l a : Nat) : Int) ≥ (m : Int); omega), if_pos (by show 0 + l.length < _; omega), bind_some', bind_some', if_pos (by show ([] ++ l : List Let).length + 1 < _; simp; omega), if_pos h, decide_eq_true h]
    rfl
  · rw [if_pos (by show ((cnt l a : Nat) : Int) ≥ (m : Int); omega), if_neg h, decide_eq_false h]
theorem rtake_f (l : List Let) (r : Int) : tontineref15_Box_Take.f r l = some ((took l).1, (took l).2.1, (took l).2.2, l.drop 1) := by
  unfold tontineref15_Box_Take.f
  cases l with
  | nil => rfl
  | cons x l => rw [if_neg (by simp; try omega), if_pos (by simp; try omega), if_pos (by simp; try omega)]; rfl

theorem mplays_l0 (l : List S61) (hl : l.length ≤ 80) (m : Nat) : ∀ (d i k : Nat) (L : List Let), i + d = l.length → 2 * d + 200 < k → L.length ≤ i →
    tontinelaw19_MailPlays.l0 k l (i : Int) L (m : Int) (m : Int) L = some true := by
  intro d
  induction d with
  | zero =>
    intro i k L hi hk hL
    obtain ⟨k, rfl⟩ : ∃ q, k = q + 1 := ⟨k - 1, by omega⟩
    simp only [tontinelaw19_MailPlays.l0]
    rw [if_neg (by omega)]
  | succ d ih =>
    intro i k L hi hk hL
    obtain ⟨k, rfl⟩ : ∃ q, k = q + 2 := ⟨k - 2, by omega⟩
    simp only [tontinelaw19_MailPlays.l0]
    obtain ⟨s, hs⟩ : ∃ s, s = rd_T61 l (i : Int) := ⟨_, rfl⟩
    have hj : ∀ (M : List Let) (a b c : Int), M.length ≤ i + 1 → tontinelaw19_MailPlays.j1 (k + 1) l (i : Int) M (m : Int) (m : Int) M a b c = some true := by
      intro M a b c hM
      simp only [tontinelaw19_MailPlays.j1]
      rw [len_f, bind_some']
      dsimp only
      rw [if_pos rfl, waits_f M (by omega) b _ k (by omega), bind_some', rwaits_f M (by omega) b _ k (by omega), bind_some']
      dsimp only
      rw [if_pos rfl, wrap_succ i (by omega)]
      exact ih (i + 1) k M (by omega) (by omega) hM
    rw [if_pos (by omega), if_pos (by omega), ← hs]
    by_cases hc : s.f0 ≤ 2
    · have lA := put_len m L s.f1 s.f2
      rw [if_pos hc, put_f m L (by omega) _ _ (k + 1) (by omega), bind_some', rput_f m L (by omega) _ _ (k + 1) (by omega), bind_some']
      dsimp only
      rw [if_neg (by simp)]
      exact hj _ _ _ _ (by omega)
    · rw [if_neg hc, take_f, bind_some', rtake_f, bind_some']
      dsimp only
      rw [if_neg (by simp), if_neg (by simp)]
      exact hj _ _ _ _ (by simp; omega)

theorem MailPlays : ∀ (x0 : Int) (x1 : List S61), (-9223372036854775808 ≤ x0 ∧ x0 ≤ 9223372036854775807) → (x1.length ≤ 9223372036854775807 ∧ ∀ y ∈ x1, wf61 y) → ∃ k, tontinelaw19_MailPlays.f k x0 x1 = some true := by
  intro a l ha hl
  obtain ⟨K, hK⟩ := known_f
  refine ⟨K + 2 * l.length + 210, ?_⟩
  have q := hK (K + 2 * l.length + 210) (by omega)
  dsimp only at q
  unfold tontinelaw19_MailPlays.f
  rw [q, bind_some', if_pos rfl]
  by_cases h : (l.length : Int) > 80
  · rw [if_pos h]
  rw [if_neg h]
  obtain ⟨m, hm⟩ : ∃ m : Nat, mx 1 (mn a 8) = (m : Int) := by
    refine ⟨(mx 1 (mn a 8)).toNat, ?_⟩; unfold mx mn; split <;> split <;> omega
  have hm' : mn (mx a 1) 8 = (m : Int) := by
    rw [← hm]; unfold mx mn; (repeat' split) <;> omega
  unfold mail_New.f tontineref15_NewBox.f
  rw [bind_some', bind_some', hm, hm']
  exact mplays_l0 l (by omega) m l.length 0 (K + 2 * l.length + 210) [] (by omega) (by omega) (Nat.le_refl _)
end Go.Proofs.Ytpbcamdjcnokfaa.Pure
