/- What a ring's functions do, in plain words: the last few of the numbered records; the first one from a number on. -/
import Derived.Test.YtpbcamdjcnokfaaPx2
import Derived.Test.YtpbcamdjcnokfaaPx3
import Derived.Test.YtpbcamdjcnokfaaPx4
import Derived.Test.YtpbcamdjcnokfaaPx5
import Derived.Test.YtpbcamdjcnokfaaRd
namespace Go.Proofs.Ytpbcamdjcnokfaa.RingR
open Go Go.RowKit Go.Proofs.Ytpbcamdjcnokfaa Go.Proofs.Ytpbcamdjcnokfaa.P Go.Proofs.YtpbcamdjcnokfaaW.PrintWords Go.Proofs.YtpbcamdjcnokfaaW.PrintLast Go.Proofs.YtpbcamdjcnokfaaW.PrintMore

theorem bind_some' {α β : Type} (a : α) (f : α → Option β) : (some a).bind f = f a := by simp
theorem wrap_in {n : Int} (h0 : -9223372036854775808 ≤ n) (h1 : n ≤ 9223372036854775807) : wrap64 n = n := by
  unfold wrap64; omega
theorem wrap_succ (n : Nat) (h : n ≤ 1099511627776) : wrap64 ((n : Int) + 1) = ((n + 1 : Nat) : Int) := by
  rw [wrap_in (by omega) (by omega)]; omega
theorem wrap_sub (n m : Nat) (h : n ≤ 1099511627776) (hm : m ≤ 1099511627776) : wrap64 ((n : Int) - (m : Int)) = (n : Int) - (m : Int) := wrap_in (by omega) (by omega)
theorem wrap_sub1 (n m : Nat) (h : n ≤ 1099511627776) (hm : m ≤ 1099511627776) : wrap64 ((n : Int) - (m : Int) + 1) = (n : Int) - (m : Int) + 1 := wrap_in (by omega) (by omega)
theorem wrap_subN (n m : Nat) (h : n ≤ 1099511627776) (hm : m ≤ n) : wrap64 ((n : Int) - (m : Int)) = ((n - m : Nat) : Int) := by
  rw [wrap_in (by omega) (by omega)]; omega
theorem wrap_add (n m : Nat) (h : n ≤ 1099511627776) (hm : m ≤ 1099511627776) : wrap64 ((n : Int) + (m : Int)) = ((n + m : Nat) : Int) := by
  rw [wrap_in (by omega) (by omega)]; omega
abbrev Rec := S43
theorem rd_get (l : List Rec) (i : Nat) (h : i < l.length) : rd_T43 l (i : Int) = l[i] := by
  simp [rd_T43, List.getD_eq_getElem?_getD, List.getElem?_eq_getElem h]
/-- What is kept of all records, with room for k. -/
def keep (k : Nat) (L : List Rec) : List Rec := L.drop (L.length - k)
theorem keep_len (k : Nat) (L : List Rec) : (keep k L).length = min k L.length := by
  unfold keep; rw [List.length_drop]; omega
theorem keep_add (k : Nat) (hk : 1 ≤ k) (L : List Rec) (x : Rec) : (if (keep k L ++ [x]).length > k then (keep k L ++ [x]).drop 1 else keep k L ++ [x]) = keep k (L ++ [x]) := by
  have hl := keep_len k L
  have e : (L ++ [x]).length = L.length + 1 := by simp
  by_cases h : L.length < k
  · rw [if_neg (by rw [List.length_append, hl]; simp; omega)]
    unfold keep
    rw [e, show L.length - k = 0 by omega, show L.length + 1 - k = 0 by omega]; rfl
  · rw [if_pos (by rw [List.length_append, hl]; simp; omega)]
    unfold keep
    rw [e, ← List.drop_append_of_le_length (by omega), List.drop_drop]
    congr 1; omega
theorem add_f (k : Nat) (hk : 1 ≤ k) (L : List Rec) (hL : L.length < 1099511627776) (t o c : Int) :
    ring_Ring_Add.f (keep k L) (k : Int) (L.length : Int) t o c = some (keep k (L ++ [⟨((L.length + 1 : Nat) : Int), t, o, c⟩]), (k : Int), ((L.length + 1 : Nat) : Int)) := by
  unfold ring_Ring_Add.f
  have hl := keep_len k L
  have hw : wrap64 ((L.length : Int) + 1) = ((L.length + 1 : Nat) : Int) := by rw [wrap_in (by omega) (by omega)]; omega
  rw [if_pos (by omega), hw, bind_some', ← keep_add k hk L]
  by_cases h : (keep k L ++ [(⟨((L.length + 1 : Nat) : Int), t, o, c⟩ : Rec)]).length > k
  · have h2 : (((keep k L ++ [(⟨((L.length + 1 : Nat) : Int), t, o, c⟩ : Rec)]).length : Nat) : Int) > (k : Int) := by omega
    rw [if_pos h2, if_pos h]
    unfold ext_51.f
    rw [if_pos ⟨by decide, by decide, by simp; omega⟩, bind_some']
    rfl
  · have h2 : ¬ (((keep k L ++ [(⟨((L.length + 1 : Nat) : Int), t, o, c⟩ : Rec)]).length : Nat) : Int) > (k : Int) := by omega
    rw [if_neg h2, if_neg h]
theorem all_f (l : List Rec) (hl : l.length < 4398046511104) (a b : Int) : ring_Ring_All.f l a b = some (l, l, a, b) := by
  unfold ring_Ring_All.f ext_52.f
  rw [if_pos hl, bind_some']
theorem last_f (l : List Rec) (a b : Int) : ring_Ring_Last.f l a b = some (b, l, a, b) := rfl
theorem lost_f (k : Nat) (L : List Rec) (hL : L.length < 1099511627776) (a : Int) : ring_Ring_Lost.f (keep k L) a (L.length : Int) = some (((L.length - k : Nat) : Int), keep k L, a, (L.length : Int)) := by
  unfold ring_Ring_Lost.f
  have hl := keep_len k L
  rw [wrap_in (by omega) (by omega), hl]
  congr 2
  omega
/-- What is told of what was found, or not. -/
def found (o : Option Rec) : Int × Int × Int × Int × Bool := match o with
  | some r => (r.f0, r.f1, r.f2, r.f3, true)
  | none => (0, 0, 0, 0, false)
theorem from_l (l : List Rec) (hl : l.length < 1099511627776) (s a b : Int) : ∀ (d i k : Nat), i + d = l.length → d < k →
    ring_Ring_From.l0 k s (i : Int) l a b = some ((found ((l.drop i).find? fun r => decide (s ≤ r.f0))).1, (found ((l.drop i).find? fun r => decide (s ≤ r.f0))).2.1, (found ((l.drop i).find? fun r => decide (s ≤ r.f0))).2.2.1, (found ((l.drop i).find? fun r => decide (s ≤ r.f0))).2.2.2.1, (found ((l.drop i).find? fun r => decide (s ≤ r.f0))).2.2.2.2, l, a, b) := by
  intro d
  induction d with
  | zero =>
    intro i k hi hk
    obtain ⟨k, rfl⟩ : ∃ m, k = m + 1 := ⟨k - 1, by omega⟩
    simp only [ring_Ring_From.l0]
    rw [if_pos (by omega), List.drop_eq_nil_of_le (by omega)]
    rfl
  | succ d ih =>
    intro i k hi hk
    obtain ⟨k, rfl⟩ : ∃ m, k = m + 1 := ⟨k - 1, by omega⟩
    have h := ih (i + 1) k (by omega) (by omega)
    simp only [ring_Ring_From.l0]
    have hw : wrap64 ((i : Int) + 1) = ((i + 1 : Nat) : Int) := by rw [wrap_in (by omega) (by omega)]; omega
    rw [if_neg (by omega), if_pos (by omega), if_pos (by omega), hw, h, rd_get l i (by omega), List.drop_eq_getElem_cons (show i < l.length by omega)]
    by_cases hs : l[i].f0 ≥ s
    · rw [if_pos hs, List.find?_cons_of_pos (by simpa using hs)]; rfl
    · rw [if_neg hs, List.find?_cons_of_neg (by simpa using hs)]
theorem from_f (l : List Rec) (hl : l.length < 1099511627776) (s a b : Int) (k : Nat) (hk : l.length < k) :
    ring_Ring_From.f k l a b s = some ((found (l.find? fun r => decide (s ≤ r.f0))).1, (found (l.find? fun r => decide (s ≤ r.f0))).2.1, (found (l.find? fun r => decide (s ≤ r.f0))).2.2.1, (found (l.find? fun r => decide (s ≤ r.f0))).2.2.2.1, (found (l.find? fun r => decide (s ≤ r.f0))).2.2.2.2, l, a, b) := by
  have := from_l l hl s a b l.length 0 k (by omega) hk
  simpa [ring_Ring_From.f] using this
/-- Numbered from one on. -/
def Num (L : List Rec) : Prop := ∀ j (h : j < L.length), L[j].f0 = (j : Int) + 1
theorem Num.add {L : List Rec} (h : Num L) (t o c : Int) : Num (L ++ [⟨((L.length + 1 : Nat) : Int), t, o, c⟩]) := by
  intro j hj
  by_cases hc : j < L.length
  · rw [List.getElem_append_left hc]; exact h j hc
  · have : j = L.length := by simp at hj; omega
    subst this
    rw [List.getElem_append_right (by omega)]
    simp
theorem find_keep {L : List Rec} (h : Num L) (k : Nat) (hk : 1 ≤ k) (a : Nat) (ha : a ≤ L.length) :
    (keep k L).find? (fun r => decide (((a + 1 : Nat) : Int) ≤ r.f0)) = if hh : a < L.length then some (L[max a (L.length - k)]'(by omega)) else none := by
  by_cases hh : a < L.length
  · rw [dif_pos hh, List.find?_eq_some_iff_getElem]
    refine ⟨?_, max a (L.length - k) - (L.length - k), by rw [keep_len]; omega, ?_, fun j hj => ?_⟩
    · rw [h]; simp; omega
    · unfold keep
      rw [List.getElem_drop]
      congr 1; omega
    · unfold keep
      rw [List.getElem_drop, h]
      simp; omega
  · rw [dif_neg hh, List.find?_eq_none]
    intro x hx
    obtain ⟨j, hj, rfl⟩ := List.mem_iff_getElem.1 hx
    unfold keep at hj ⊢
    rw [List.length_drop] at hj
    rw [List.getElem_drop, h]
    simp; omega
theorem known_f : ∀ k, 8 ≤ k → tontinelaw18_known.f k = some true := by
  have h0 : tontinelaw18_known.f 8 = some true := by decide +kernel
  intro k hk
  induction k with
  | zero => omega
  | succ k ih =>
    rcases Nat.lt_or_ge 8 (k + 1) with h | h
    · exact tontinelaw18_known.mono k true (ih (by omega))
    · have : k + 1 = 8 := by omega
      rw [this]; exact h0
end Go.Proofs.Ytpbcamdjcnokfaa.RingR
