/- Rows of levels: whether those above a label are alike; what low.Levels tells of them. -/
import Derived.Test.YtnnkmkejcmdjpaaPx15
import Derived.Test.YtnnkmkejcmdjpaaLab
namespace Go.Proofs.Ytnnkmkejcmdjpaa.LowR
open Go Go.RowKit Go.Proofs.Ytnnkmkejcmdjpaa Go.Proofs.Ytnnkmkejcmdjpaa.P Go.Proofs.Ytnnkmkejcmdjpaa.Lab Go.Proofs.YtnnkmkejcmdjpaaW.PrintWords Go.Proofs.YtnnkmkejcmdjpaaW.PrintLast Go.Proofs.YtnnkmkejcmdjpaaW.PrintMore
/-- A domain that isn't at or below a label. -/
def hi (doms : List S46) (a b : Int) (d : Nat) : Bool := !leqB ((rd_T46 doms (d : Int)).f0.f0) ((rd_T46 doms (d : Int)).f0.f1) a b
/-- One row of levels, n domains from d on. -/
def rowB (h : Nat → Bool) (x y : List Int) : Nat → Nat → Bool
  | 0, _ => true
  | n + 1, d => (if d < min x.length y.length ∧ h d = true then decide (rd x (d : Int) = rd y (d : Int)) else true) && rowB h x y n (d + 1)
/-- m rows of levels from e on. -/
def levB (h : Nat → Bool) (N : Nat) (a b : List (List Int)) : Nat → Nat → Bool
  | 0, _ => true
  | m + 1, e => rowB h (rd_L3 a (e : Int)) (rd_L3 b (e : Int)) N 0 && levB h N a b m (e + 1)
def levS (doms : List S46) (a b : List (List Int)) (la lb : Int) : Bool := decide (a.length = b.length) && levB (hi doms la lb) doms.length a b a.length 0
theorem rowB_symm (h : Nat → Bool) (x y : List Int) : ∀ n d, rowB h x y n d = rowB h y x n d := by
  intro n
  induction n with
  | zero => intro d; rfl
  | succ n ih =>
    intro d
    unfold rowB
    rw [ih (d + 1), Nat.min_comm x.length y.length]
    congr 1
    split
    · exact decide_eq_decide.2 ⟨Eq.symm, Eq.symm⟩
    · rfl
theorem rowB_self (h : Nat → Bool) (x : List Int) : ∀ n d, rowB h x x n d = true := by
  intro n
  induction n with
  | zero => intro d; rfl
  | succ n ih => intro d; unfold rowB; rw [ih (d + 1)]; split <;> simp
theorem rowB_lo (h : Nat → Bool) (x y : List Int) : ∀ n d, (∀ i, d ≤ i → i < d + n → h i = false) → rowB h x y n d = true := by
  intro n
  induction n with
  | zero => intro d _; rfl
  | succ n ih =>
    intro d hl
    unfold rowB
    rw [ih (d + 1) (fun i h1 h2 => hl i (by omega) (by omega)), if_neg (fun q => by rw [hl d (by omega) (by omega)] at q; exact absurd q.2 (by decide))]
    rfl
theorem levB_symm (h : Nat → Bool) (N : Nat) (a b : List (List Int)) : ∀ m e, levB h N a b m e = levB h N b a m e := by
  intro m
  induction m with
  | zero => intro e; rfl
  | succ m ih => intro e; unfold levB; rw [ih (e + 1), rowB_symm]
theorem levB_self (h : Nat → Bool) (N : Nat) (a : List (List Int)) : ∀ m e, levB h N a a m e = true := by
  intro m
  induction m with
  | zero => intro e; rfl
  | succ m ih => intro e; unfold levB; rw [ih (e + 1), rowB_self]; rfl
theorem levB_lo (h : Nat → Bool) (N : Nat) (a b : List (List Int)) (hl : ∀ i, i < N → h i = false) : ∀ m e, levB h N a b m e = true := by
  intro m
  induction m with
  | zero => intro e; rfl
  | succ m ih => intro e; unfold levB; rw [ih (e + 1), rowB_lo h _ _ N 0 (fun i _ h2 => hl i (by omega))]; rfl
theorem levS_symm (doms : List S46) (a b : List (List Int)) (la lb : Int) : levS doms a b la lb = levS doms b a la lb := by
  unfold levS
  by_cases h : a.length = b.length
  · rw [h, levB_symm]
  · rw [decide_eq_false h, decide_eq_false (fun q => h q.symm)]; rfl
theorem levS_self (doms : List S46) (a : List (List Int)) (la lb : Int) : levS doms a a la lb = true := by
  unfold levS; rw [levB_self]; simp
theorem levS_lo (doms : List S46) (a b : List (List Int)) (la lb : Int) (h : a.length = b.length) (hl : ∀ i, i < doms.length → hi doms la lb i = false) : levS doms a b la lb = true := by
  unfold levS; rw [levB_lo _ _ _ _ hl, decide_eq_true h]; rfl
theorem levS_len {doms : List S46} {a b : List (List Int)} {la lb : Int} (h : levS doms a b la lb = true) : a.length = b.length := by
  unfold levS at h
  exact of_decide_eq_true (Bool.and_eq_true_iff.1 h).1
theorem wsucc (i : Nat) (h : i < 1000000000) : wrap64 ((i : Int) + 1) = ((i + 1 : Nat) : Int) := by
  rw [wrap_in (by omega) (by omega)]; rfl
theorem high_f (p q : Int) (pl : List (List Int)) (doms : List S46) (d : Nat) (hd : d < doms.length) (la lb : Int) : low_high.f p q pl doms (d : Int) la lb = some (hi doms la lb d) := by
  unfold low_high.f
  rw [if_pos (by omega), if_pos (by omega), leq_f, bind_some']
  rfl
theorem mn_lt (d a b : Nat) : ((d : Int) < mn (a : Int) (b : Int)) ↔ d < min a b := by
  unfold mn
  split <;> omega
section
variable (p q : Int) (pl : List (List Int)) (doms : List S46) (a b : List (List Int)) (la lb : Int)
theorem row_f (hN : doms.length ≤ 1000000) (e : Nat) (h1 : e < a.length) (h2 : e < b.length) (X : Int) : ∀ (n d k : Nat), d + n = doms.length →
    low_Levels.l1 (n + 1 + k) a b (e : Int) X (e : Int) (doms.length : Int) (d : Int) p q pl doms la lb
      = if rowB (hi doms la lb) (rd_L3 a (e : Int)) (rd_L3 b (e : Int)) n d = true then low_Levels.l0 k a b X (wrap64 ((e : Int) + 1)) p q pl doms la lb else some false := by
  intro n
  induction n with
  | zero =>
    intro d k hd
    rw [show 0 + 1 + k = k + 1 by omega, low_Levels.l1, if_neg (by omega), show rowB (hi doms la lb) (rd_L3 a (e : Int)) (rd_L3 b (e : Int)) 0 d = true from rfl, if_pos rfl]
  | succ n ih =>
    intro d k hd
    have next := ih (d + 1) k (by omega)
    rw [← wsucc d (by omega)] at next
    rw [show n + 1 + 1 + k = (n + 1 + k) + 1 by omega, low_Levels.l1, if_pos (by omega), if_pos (by omega), if_pos (by omega), if_pos (by omega)]
    have hr : rowB (hi doms la lb) (rd_L3 a (e : Int)) (rd_L3 b (e : Int)) (n + 1) d = ((if d < min (rd_L3 a (e : Int)).length (rd_L3 b (e : Int)).length ∧ hi doms la lb d = true then decide (rd (rd_L3 a (e : Int)) (d : Int) = rd (rd_L3 b (e : Int)) (d : Int)) else true) && rowB (hi doms la lb) (rd_L3 a (e : Int)) (rd_L3 b (e : Int)) n (d + 1)) := rfl
    rw [hr]
    by_cases c : d < min (rd_L3 a (e : Int)).length (rd_L3 b (e : Int)).length
    · rw [if_pos ((mn_lt d _ _).2 c), high_f p q pl doms d (by omega), bind_some']
      cases hh : hi doms la lb d with
      | false => rw [if_neg (by decide), next]; simp
      | true =>
        have z : (if d < min (rd_L3 a (e : Int)).length (rd_L3 b (e : Int)).length ∧ true = true then decide (rd (rd_L3 a (e : Int)) (d : Int) = rd (rd_L3 b (e : Int)) (d : Int)) else true) = decide (rd (rd_L3 a (e : Int)) (d : Int) = rd (rd_L3 b (e : Int)) (d : Int)) := if_pos ⟨c, rfl⟩
        rw [z, if_pos rfl, if_pos (by omega), if_pos (by omega), if_pos (by omega)]
        by_cases r : rd (rd_L3 a (e : Int)) (d : Int) = rd (rd_L3 b (e : Int)) (d : Int)
        · rw [if_pos r, next, decide_eq_true r, Bool.true_and]
        · rw [if_neg r, decide_eq_false r, Bool.false_and, if_neg (by decide)]
    · rw [if_neg (fun q => c ((mn_lt d _ _).1 q)), next]
      have z : (if d < min (rd_L3 a (e : Int)).length (rd_L3 b (e : Int)).length ∧ hi doms la lb d = true then decide (rd (rd_L3 a (e : Int)) (d : Int) = rd (rd_L3 b (e : Int)) (d : Int)) else true) = true := if_neg (fun q => c q.1)
      rw [z, Bool.true_and]
theorem rows_f (hN : doms.length ≤ 1000000) (hA : a.length ≤ 1000000) (hab : a.length = b.length) : ∀ (m e k : Nat), e + m = a.length → (doms.length + 2) * m + 1 ≤ k →
    low_Levels.l0 k a b (a.length : Int) (e : Int) p q pl doms la lb = some (levB (hi doms la lb) doms.length a b m e) := by
  intro m
  induction m with
  | zero =>
    intro e k he hk
    obtain ⟨k, rfl⟩ : ∃ j, k = j + 1 := ⟨k - 1, by omega⟩
    rw [low_Levels.l0, if_neg (by omega)]
    rfl
  | succ m ih =>
    intro e k he hk
    rw [Nat.mul_succ] at hk
    obtain ⟨k, rfl⟩ : ∃ j, k = (doms.length + 1 + j) + 1 := ⟨k - doms.length - 2, by omega⟩
    have r := row_f p q pl doms a b la lb hN e (by omega) (by omega) (a.length : Int) doms.length 0 k (by omega)
    rw [low_Levels.l0, if_pos (by omega), show (0 : Int) = ((0 : Nat) : Int) from rfl, r]
    have hl : levB (hi doms la lb) doms.length a b (m + 1) e = (rowB (hi doms la lb) (rd_L3 a (e : Int)) (rd_L3 b (e : Int)) doms.length 0 && levB (hi doms la lb) doms.length a b m (e + 1)) := rfl
    rw [hl]
    cases rowB (hi doms la lb) (rd_L3 a (e : Int)) (rd_L3 b (e : Int)) doms.length 0 with
    | false => rfl
    | true => rw [if_pos rfl, wsucc e (by omega), ih (e + 1) k (by omega) (by omega), Bool.true_and]
theorem levels_f (hN : doms.length ≤ 1000000) (hA : a.length ≤ 1000000) (k : Nat) (hk : (doms.length + 2) * a.length + 1 ≤ k) : low_Levels.f k p q pl doms a b la lb = some (levS doms a b la lb) := by
  unfold low_Levels.f levS
  by_cases h : a.length = b.length
  · rw [if_pos (by omega), show (0 : Int) = ((0 : Nat) : Int) from rfl, rows_f p q pl doms a b la lb hN hA h a.length 0 k (by omega) hk, decide_eq_true h, Bool.true_and]
  · rw [if_neg (by omega), decide_eq_false h, Bool.false_and]
end
end Go.Proofs.Ytnnkmkejcmdjpaa.LowR
