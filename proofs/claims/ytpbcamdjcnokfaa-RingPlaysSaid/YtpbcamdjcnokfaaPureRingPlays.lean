/- Every row of records: all that is there, the last, how many were lost, each that is looked for, behind each: the program's ring tells what the document's tells. -/
import Derived.Test.YtpbcamdjcnokfaaPx5
import Derived.Test.YtpbcamdjcnokfaaPx6
import Derived.Test.YtpbcamdjcnokfaaPx7
import Derived.Test.YtpbcamdjcnokfaaPx8
import Derived.Test.YtpbcamdjcnokfaaRingR
namespace Go.Proofs.Ytpbcamdjcnokfaa.Pure
open Go Go.RowKit Go.Proofs.Ytpbcamdjcnokfaa Go.Proofs.Ytpbcamdjcnokfaa.P Go.Proofs.Ytpbcamdjcnokfaa.RingR Go.Proofs.YtpbcamdjcnokfaaW.PrintWords Go.Proofs.YtpbcamdjcnokfaaW.PrintLast Go.Proofs.YtpbcamdjcnokfaaW.PrintMore

theorem radd_f (k : Nat) (hk : 1 ≤ k) (hk2 : k ≤ 16) (L : List Rec) (hL : L.length < 1099511627776) (t o c : Int) :
    tontineref15_Ring_Add.f (k : Int) (keep k L) (L.length : Int) t o c = some ((k : Int), keep k (L ++ [⟨((L.length + 1 : Nat) : Int), t, o, c⟩]), ((L.length + 1 : Nat) : Int)) := by
  unfold tontineref15_Ring_Add.f
  have hl := keep_len k L
  have hw := wrap_succ L.length (by omega)
  rw [if_pos (by simp; omega), hw, bind_some', bind_some', if_pos (by simp; omega), bind_some', ← keep_add k hk L]
  clear hw
  rw [List.nil_append]
  by_cases h : (keep k L ++ [(⟨((L.length + 1 : Nat) : Int), t, o, c⟩ : Rec)]).length > k
  · have h2 : (((keep k L ++ [(⟨((L.length + 1 : Nat) : Int), t, o, c⟩ : Rec)]).length : Nat) : Int) > (k : Int) := by omega
    rw [if_pos h2, if_pos (by omega), if_pos h]
    rfl
  · have h2 : ¬ (((keep k L ++ [(⟨((L.length + 1 : Nat) : Int), t, o, c⟩ : Rec)]).length : Nat) : Int) > (k : Int) := by omega
    rw [if_neg h2, if_neg h]
theorem rfrom_l (l : List Rec) (hl : l.length < 1099511627776) (s a b : Int) : ∀ (d i k : Nat), i + d = l.length → d < k →
    tontineref15_Ring_From.l0 k s (i : Int) a l b = some ((found ((l.drop i).find? fun r => decide (s ≤ r.f0))).1, (found ((l.drop i).find? fun r => decide (s ≤ r.f0))).2.1, (found ((l.drop i).find? fun r => decide (s ≤ r.f0))).2.2.1, (found ((l.drop i).find? fun r => decide (s ≤ r.f0))).2.2.2.1, (found ((l.drop i).find? fun r => decide (s ≤ r.f0))).2.2.2.2, a, l, b) := by
  intro d
  induction d with
  | zero =>
    intro i k hi hk
    obtain ⟨k, rfl⟩ : ∃ m, k = m + 1 := ⟨k - 1, by omega⟩
    simp only [tontineref15_Ring_From.l0]
    rw [if_neg (by omega), List.drop_eq_nil_of_le (by omega)]
    rfl
  | succ d ih =>
    intro i k hi hk
    obtain ⟨k, rfl⟩ : ∃ m, k = m + 1 := ⟨k - 1, by omega⟩
    have h := ih (i + 1) k (by omega) (by omega)
    simp only [tontineref15_Ring_From.l0]
    rw [if_pos (by omega), if_pos (by omega), wrap_succ i (by omega), h, rd_get l i (by omega), List.drop_eq_getElem_cons (show i < l.length by omega)]
    by_cases hs : l[i].f0 ≥ s
    · rw [if_pos hs, List.find?_cons_of_pos (by simpa using hs)]; rfl
    · rw [if_neg hs, List.find?_cons_of_neg (by simpa using hs)]
theorem rfrom_f (l : List Rec) (hl : l.length < 1099511627776) (s a b : Int) (k : Nat) (hk : l.length < k) :
    tontineref15_Ring_From.f k a l b s = some ((found (l.find? fun r => decide (s ≤ r.f0))).1, (found (l.find? fun r => decide (s ≤ r.f0))).2.1, (found (l.find? fun r => decide (s ≤ r.f0))).2.2.1, (found (l.find? fun r => decide (s ≤ r.f0))).2.2.2.1, (found (l.find? fun r => decide (s ≤ r.f0))).2.2.2.2, a, l, b) := by
  have := rfrom_l l hl s a b l.length 0 k (by omega) hk
  simpa [tontineref15_Ring_From.f] using this
theorem same_l (l : List Rec) (hl : l.length < 1099511627776) : ∀ (d i k : Nat), i + d = l.length → d < k → tontineref15_SameRecords.l0 k l l (i : Int) = some true := by
  intro d
  induction d with
  | zero =>
    intro i k hi hk
    obtain ⟨k, rfl⟩ : ∃ m, k = m + 1 := ⟨k - 1, by omega⟩
    simp only [tontineref15_SameRecords.l0]
    rw [if_neg (by omega)]
  | succ d ih =>
    intro i k hi hk
    obtain ⟨k, rfl⟩ : ∃ m, k = m + 1 := ⟨k - 1, by omega⟩
    have h := ih (i + 1) k (by omega) (by omega)
    simp only [tontineref15_SameRecords.l0]
    rw [if_pos (by omega), if_pos (by omega), if_pos (by omega), if_neg (by simp), wrap_succ i (by omega), h]
theorem same_f (l : List Rec) (hl : l.length < 1099511627776) (k : Nat) (hk : l.length < k) : tontineref15_SameRecords.f k l l = some true := by
  unfold tontineref15_SameRecords.f
  rw [if_pos rfl]
  exact same_l l hl l.length 0 k (by omega) hk

theorem plays_l1 (l : List Rec) (s : List Int) (k : Nat) (hk1 : 1 ≤ k) (hk2 : k ≤ 16) (hl : l.length ≤ 60) (hs : s.length ≤ 20) (L : List Rec) (hL : L.length ≤ 60) (i M : Nat) (hi : i ≤ 60)
    (hn : ∀ m, M ≤ m → tontinelaw18_RingPlays.l0 m l s ((i + 1 : Nat) : Int) (keep k L) (k : Int) (L.length : Int) (k : Int) (keep k L) (L.length : Int) = some true) :
    ∀ (d j m : Nat), j + d = s.length → M + 100 + d < m → tontinelaw18_RingPlays.l1 m l s (i : Int) (j : Int) (keep k L) (k : Int) (L.length : Int) (k : Int) (keep k L) (L.length : Int) = some true := by
  intro d
  induction d with
  | zero =>
    intro j m hj hm
    obtain ⟨m, rfl⟩ : ∃ q, m = q + 1 := ⟨m - 1, by omega⟩
    simp only [tontinelaw18_RingPlays.l1]
    rw [if_neg (by omega), wrap_succ i (by omega)]
    exact hn m (by omega)
  | succ d ih =>
    intro j m hj hm
    obtain ⟨m, rfl⟩ : ∃ q, m = q + 1 := ⟨m - 1, by omega⟩
    simp only [tontinelaw18_RingPlays.l1]
    have kl := keep_len k L
    rw [if_pos (by omega), if_pos (by omega), from_f _ (by omega) _ _ _ m (by omega), bind_some', rfrom_f _ (by omega) _ _ _ m (by omega), bind_some']
    dsimp only
    rw [if_neg (by simp), if_neg (by simp), wrap_succ j (by omega)]
    exact ih (j + 1) m (by omega) (by omega)

theorem plays_l0 (l : List Rec) (s : List Int) (k : Nat) (hk1 : 1 ≤ k) (hk2 : k ≤ 16) (hl : l.length ≤ 60) (hs : s.length ≤ 20) :
    ∀ (d i m : Nat) (L : List Rec), i + d = l.length → 200 * (d + 1) < m → L.length = i →
      tontinelaw18_RingPlays.l0 m l s (i : Int) (keep k L) (k : Int) (L.length : Int) (k : Int) (keep k L) (L.length : Int) = some true := by
  intro d
  induction d with
  | zero =>
    intro i m L hi hm hL
    obtain ⟨m, rfl⟩ : ∃ q, m = q + 1 := ⟨m - 1, by omega⟩
    simp only [tontinelaw18_RingPlays.l0]
    rw [if_neg (by omega)]
  | succ d ih =>
    intro i m L hi hm hL
    obtain ⟨m, rfl⟩ : ∃ q, m = q + 2 := ⟨m - 2, by omega⟩
    simp only [tontinelaw18_RingPlays.l0]
    rw [if_pos (by omega), if_pos (by omega), add_f k hk1 L (by omega), bind_some', radd_f k hk1 hk2 L (by omega), bind_some']
    obtain ⟨L', hL'⟩ : ∃ L' : List Rec, L' = L ++ [⟨((L.length + 1 : Nat) : Int), (rd_T43 l (i : Int)).f1, (rd_T43 l (i : Int)).f2, (rd_T43 l (i : Int)).f3⟩] := ⟨_, rfl⟩
    have hLl : L'.length = L.length + 1 := by rw [hL']; simp
    rw [← hL']
    have kl := keep_len k L'
    dsimp only
    rw [← hLl, all_f _ (by omega), bind_some']
    dsimp only
    rw [same_f _ (by omega) _ (by omega), bind_some', if_pos rfl, last_f, bind_some']
    dsimp only
    rw [if_pos rfl, lost_f k L' (by omega), bind_some']
    dsimp only
    have hw : wrap64 ((L'.length : Int) - ((keep k L').length : Int)) = ((L'.length - k : Nat) : Int) := by
      rw [wrap_subN L'.length (keep k L').length (by omega) (by omega), kl]; congr 1; omega
    rw [hw]
    clear hw
    simp only [tontinelaw18_RingPlays.j2]
    rw [if_neg (by simp)]
    exact plays_l1 l s k hk1 hk2 hl hs L' (by omega) i (200 * (d + 1) + 1) (by omega) (fun q hq => ih (i + 1) q L' (by omega) (by omega) (by omega)) s.length 0 m (by omega) (by omega)

theorem RingPlays : ∀ (x0 : Int) (x1 : List Rec) (x2 : List Int), (-9223372036854775808 ≤ x0 ∧ x0 ≤ 9223372036854775807) → (x1.length ≤ 9223372036854775807 ∧ ∀ y ∈ x1, wf43 y) → (x2.length ≤ 9223372036854775807 ∧ ∀ y ∈ x2, (-9223372036854775808 ≤ y ∧ y ≤ 9223372036854775807)) → ∃ k, tontinelaw18_RingPlays.f k x0 x1 x2 = some true := by
  intro a l s ha hl hs
  refine ⟨200 * (l.length + 1) + 20, ?_⟩
  unfold tontinelaw18_RingPlays.f
  rw [known_f _ (by omega), bind_some', if_pos rfl]
  obtain ⟨m, hm⟩ : ∃ m, 200 * (l.length + 1) + 20 = m + 1 := ⟨200 * (l.length + 1) + 19, by omega⟩
  rw [hm]
  by_cases h : (l.length : Int) > 60
  · rw [if_pos h]; simp only [tontinelaw18_RingPlays.j0]; rfl
  rw [if_neg h]
  by_cases h2 : (s.length : Int) > 20
  · rw [decide_eq_true h2]; simp only [tontinelaw18_RingPlays.j0]; rfl
  rw [decide_eq_false h2]
  simp only [tontinelaw18_RingPlays.j0]
  rw [if_neg (by decide)]
  obtain ⟨k, hk, hk1, hk2⟩ : ∃ k : Nat, mx 1 (mn a 16) = (k : Int) ∧ 1 ≤ k ∧ k ≤ 16 := by
    refine ⟨(mx 1 (mn a 16)).toNat, ?_, ?_, ?_⟩ <;> (unfold mx mn; split <;> split <;> omega)
  have hk' : mn (mx a 1) 16 = (k : Int) := by
    rw [← hk]; unfold mx mn; (repeat' split) <;> omega
  unfold ring_New.f tontineref15_NewRing.f
  rw [bind_some', bind_some', hk, hk']
  dsimp only
  have h9 := plays_l0 l s k hk1 hk2 (by omega) (by omega) l.length 0 m [] (by omega) (by omega) rfl
  rw [show keep k ([] : List Rec) = [] by simp [keep]] at h9
  exact h9
end Go.Proofs.Ytpbcamdjcnokfaa.Pure
