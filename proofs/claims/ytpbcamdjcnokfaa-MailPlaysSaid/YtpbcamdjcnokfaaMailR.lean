/- What a letter box's functions do, in plain words: how many of one wait, what is put, what is taken. -/
import Derived.Test.YtpbcamdjcnokfaaPx2
import Derived.Test.YtpbcamdjcnokfaaPx3
import Derived.Test.YtpbcamdjcnokfaaPx4
import Derived.Test.YtpbcamdjcnokfaaPx5
import Derived.Test.YtpbcamdjcnokfaaRd
namespace Go.Proofs.Ytpbcamdjcnokfaa.MailR
open Go Go.RowKit Go.Proofs.Ytpbcamdjcnokfaa Go.Proofs.Ytpbcamdjcnokfaa.P Go.Proofs.YtpbcamdjcnokfaaW.PrintWords Go.Proofs.YtpbcamdjcnokfaaW.PrintLast Go.Proofs.YtpbcamdjcnokfaaW.PrintMore

theorem bind_some' {α β : Type} (a : α) (f : α → Option β) : (some a).bind f = f a := by simp
theorem wrap_in {n : Int} (h0 : -9223372036854775808 ≤ n) (h1 : n ≤ 9223372036854775807) : wrap64 n = n := by
  unfold wrap64; omega
theorem wrap_succ (n : Nat) (h : n ≤ 1099511627776) : wrap64 ((n : Int) + 1) = ((n + 1 : Nat) : Int) := by
  rw [wrap_in (by omega) (by omega)]; omega
abbrev Let := S63
theorem rd_get (l : List Let) (i : Nat) (h : i < l.length) : rd_T63 l (i : Int) = l[i] := by
  simp [rd_T63, List.getD_eq_getElem?_getD, List.getElem?_eq_getElem h]
/-- How many of one wait. -/
def cnt (l : List Let) (f : Int) : Nat := l.countP fun x => decide (x.f0 = f)
theorem cnt_le (l : List Let) (f : Int) : cnt l f ≤ l.length := List.countP_le_length
theorem cnt_add (l : List Let) (f a b : Int) : cnt (l ++ [⟨a, b⟩]) f = cnt l f + if a = f then 1 else 0 := by
  unfold cnt; rw [List.countP_append, List.countP_singleton]; simp
theorem waits_l (l : List Let) (hl : l.length ≤ 1000) (f r : Int) : ∀ (d i n k : Nat), i + d = l.length → d < k → n ≤ i → mail_Box_Waits.l0 k f (n : Int) (i : Int) l r = some (((n + cnt (l.drop i) f : Nat) : Int), l) := by
  intro d
  induction d with
  | zero =>
    intro i n k hi hk hn
    obtain ⟨k, rfl⟩ : ∃ m, k = m + 1 := ⟨k - 1, by omega⟩
    simp only [mail_Box_Waits.l0]
    rw [if_pos (by omega), List.drop_eq_nil_of_le (by omega)]
    rfl
  | succ d ih =>
    intro i n k hi hk hn
    obtain ⟨k, rfl⟩ : ∃ m, k = m + 1 := ⟨k - 1, by omega⟩
    simp only [mail_Box_Waits.l0]
    rw [if_neg (by omega), if_pos (by omega), if_pos (by omega), rd_get l i (by omega), wrap_succ i (by omega), wrap_succ n (by omega), List.drop_eq_getElem_cons (show i < l.length by omega)]
    unfold cnt
    by_cases h : l[i].f0 = f
    · rw [if_pos h, ih (i + 1) (n + 1) k (by omega) (by omega) (by omega), List.countP_cons_of_pos (by simpa using h)]
      unfold cnt
      congr 2; omega
    · rw [if_neg h, ih (i + 1) n k (by omega) (by omega) (by omega), List.countP_cons_of_neg (by simpa using h)]
      rfl
theorem waits_f (l : List Let) (hl : l.length ≤ 1000) (f r : Int) (k : Nat) (hk : l.length < k) : mail_Box_Waits.f k l r f = some ((cnt l f : Int), l) := by
  have h := waits_l l hl f r l.length 0 0 k (by omega) hk (Nat.le_refl _)
  rw [List.drop_zero, Nat.zero_add] at h
  exact h
/-- What stands in the box behind a put. -/
def put (m : Nat) (l : List Let) (a b : Int) : List Let := if cnt l a < m then l ++ [⟨a, b⟩] else l
theorem put_len (m : Nat) (l : List Let) (a b : Int) : (put m l a b).length ≤ l.length + 1 := by
  unfold put; split <;> simp
theorem put_f (m : Nat) (l : List Let) (hl : l.length ≤ 1000) (a b : Int) (k : Nat) (hk : l.length < k) : mail_Box_Put.f k l (m : Int) a b = some (decide (cnt l a < m), put m l a b) := by
  unfold mail_Box_Put.f put
  rw [waits_f l hl a _ k hk, bind_some']
  by_cases h : cnt l a < m
  · rw [if_neg (by show ¬ ((cnt l a : Nat) : Int) ≥ (m : Int); omega), if_pos (by show l.length < _; omega), if_pos h, decide_eq_true h]
  · rw [if_pos (by show ((cnt l a : Nat) : Int) ≥ (m : Int); omega), if_neg h, decide_eq_false h]
/-- What is told of what was taken. -/
def took (l : List Let) : Int × Int × Bool := match l with
  | [] => (0, 0, false)
  | x :: _ => (x.f0, x.f1, true)
theorem take_f (l : List Let) (r : Int) : mail_Box_Take.f l r = some ((took l).1, (took l).2.1, (took l).2.2, l.drop 1) := by
  unfold mail_Box_Take.f
  cases l with
  | nil => rfl
  | cons x l =>
    rw [if_neg (by simp; try omega), if_pos (by simp; try omega)]
    unfold ext_53.f
    rw [if_pos ⟨by decide, by decide, by simp; try omega⟩, bind_some']
    rfl
theorem len_f (l : List Let) (r : Int) : mail_Box_Len.f l r = some ((l.length : Int), l) := rfl
theorem known_f : Ev (fun k => tontinelaw19_known.f k) true := Ev.of (fun k => tontinelaw19_known.mono k) (k := 8) (by decide +kernel)
end Go.Proofs.Ytpbcamdjcnokfaa.MailR
