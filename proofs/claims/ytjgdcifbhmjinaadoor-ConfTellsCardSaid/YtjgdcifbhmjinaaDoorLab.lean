/- Labels, as the printed functions tell them: what flows where; rows that rise. -/
import Derived.Test.YtjgdcifbhmjinaaDoorPx10
import Derived.Test.YtjgdcifbhmjinaaDoorPx2
import Derived.Test.YtjgdcifbhmjinaaDoorPx3
import Derived.Test.YtjgdcifbhmjinaaDoorPx9
import Derived.Test.YtjgdcifbhmjinaaDoorRd
import Derived.Test.YtjgdcifbhmjinaaDoorBits64
namespace Go.Proofs.YtjgdcifbhmjinaaDoor.Lab
open Go Go.RowKit Go.Proofs.YtjgdcifbhmjinaaDoor Go.Proofs.YtjgdcifbhmjinaaDoor.P Go.Proofs.YtjgdcifbhmjinaaDoor.Bits64 Go.Proofs.YtjgdcifbhmjinaaDoorW.PrintWords Go.Proofs.YtjgdcifbhmjinaaDoorW.PrintLast Go.Proofs.YtjgdcifbhmjinaaDoorW.PrintMore

def leqB (a0 a1 b0 b1 : Int) : Bool := decide (a0 ≤ b0) && (bits .andNot .u64 a1 b1 == 0)
theorem leq_f (a0 a1 b0 b1 : Int) : label_Leq.f a0 a1 b0 b1 = some (leqB a0 a1 b0 b1) := by
  unfold label_Leq.f leqB; by_cases h : a0 ≤ b0 <;> simp [h]
theorem rleq_f (a0 a1 b0 b1 : Int) : tontineref1_Leq.f a0 a1 b0 b1 = some (leqB a0 a1 b0 b1) := by
  unfold tontineref1_Leq.f leqB; by_cases h : a0 ≤ b0 <;> simp [h]
def sameB (x y : S38) : Bool := x.f0 == y.f0 && x.f1 == y.f1
/-- Whether labels rise. -/
def riseB : List S38 → Bool
  | x :: y :: l => !sameB x y && leqB x.f0 x.f1 y.f0 y.f1 && riseB (y :: l)
  | _ => true
theorem round_ {a b c d : Bool} {n : Int} (hc : c = a) {r : Bool} (hd : d = (!a && b && r)) (hn : 1 ≤ n) :
    (if c = true then some false else ((some b).bind fun t => if t = true then (if 1 ≤ n then some r else none) else some false)) = some d := by
  subst hc hd; cases c <;> cases b <;> simp [hn]
theorem round2_ {a b c d : Bool} (hc : c = a) {r : Bool} (hd : d = (!a && b && r)) :
    ((some b).bind fun t => if t = true then (if c = true then some false else some r) else some false) = some d := by
  subst hc hd; cases c <;> cases b <;> simp
theorem chain_f : ∀ (l : List S38) (k : Nat), l.length < k → label_Chain.f k l = some (riseB l) := by
  intro l
  unfold label_Chain.f
  induction l with
  | nil => intro k hk; obtain ⟨k, rfl⟩ : ∃ m, k = m + 1 := ⟨k - 1, by omega⟩; simp [label_Chain.l0, riseB]
  | cons x l ih =>
    intro k hk
    obtain ⟨k, rfl⟩ : ∃ m, k = m + 1 := ⟨k - 1, by omega⟩
    cases l with
    | nil => simp [label_Chain.l0, riseB]
    | cons y l =>
      have h := ih k (by simp at hk ⊢; omega)
      simp only [label_Chain.l0]
      rw [if_neg (by simp; omega), if_pos (by simp; omega), if_pos (by simp; omega)]
      have e0 : rd_T38 (x :: y :: l) 0 = x := rfl
      have e1 : rd_T38 (x :: y :: l) 1 = y := rfl
      have e2 : (x :: y :: l).drop 1 = y :: l := rfl
      rw [e0, e1, e2, leq_f, h]
      have h1 : (1 : Int) ≤ ((x :: y :: l).length : Int) := by simp; omega
      exact round_ (a := sameB x y) (b := leqB x.f0 x.f1 y.f0 y.f1) rfl rfl h1
theorem wrap_in {n : Int} (h0 : -9223372036854775808 ≤ n) (h1 : n ≤ 9223372036854775807) : wrap64 n = n := by
  unfold wrap64; omega
theorem rchain_l (l : List S38) (hl : l.length ≤ 9223372036854775807) : ∀ (d i k : Nat), i + 1 + d = l.length → d < k → tontineref1_Chain.l0 k l ((i : Int) + 1) = some (riseB (l.drop i)) := by
  intro d
  induction d with
  | zero =>
    intro i k hi hk
    obtain ⟨k, rfl⟩ : ∃ m, k = m + 1 := ⟨k - 1, by omega⟩
    simp only [tontineref1_Chain.l0]
    rw [if_neg (by omega)]
    obtain ⟨x, hx⟩ : ∃ x, l.drop i = [x] := List.length_eq_one_iff.1 (by simp; omega)
    rw [hx]; rfl
  | succ d ih =>
    intro i k hi hk
    obtain ⟨k, rfl⟩ : ∃ m, k = m + 1 := ⟨k - 1, by omega⟩
    have h := ih (i + 1) k (by omega) (by omega)
    simp only [tontineref1_Chain.l0]
    have hw : wrap64 ((i : Int) + 1 - 1) = (i : Int) := by rw [wrap_in (by omega) (by omega)]; omega
    have hw2 : wrap64 ((i : Int) + 1 + 1) = ((i + 1 : Nat) : Int) + 1 := by rw [wrap_in (by omega) (by omega)]; omega
    rw [hw, hw2]
    rw [if_pos (by omega), if_pos (by omega), if_pos (by omega), if_pos (by omega), rleq_f, h]
    have hd : l.drop i = l[i] :: l[i+1] :: l.drop (i + 2) := by
      rw [List.drop_eq_getElem_cons (by omega), List.drop_eq_getElem_cons (by omega)]
    have hd1 : l.drop (i + 1) = l[i+1] :: l.drop (i + 2) := by rw [List.drop_eq_getElem_cons (by omega)]
    have e0 : rd_T38 l (i : Int) = l[i] := by simp [rd_T38, List.getD_eq_getElem?_getD, List.getElem?_eq_getElem (show i < l.length by omega)]
    have e1 : rd_T38 l ((i : Int) + 1) = l[i+1] := by
      have : ((i : Int) + 1).toNat = i + 1 := by omega
      simp [rd_T38, this, List.getD_eq_getElem?_getD, List.getElem?_eq_getElem (show i + 1 < l.length by omega)]
    rw [e0, e1, hd, hd1]
    exact round2_ (a := sameB l[i] l[i+1]) (b := leqB l[i].f0 l[i].f1 l[i+1].f0 l[i+1].f1) rfl rfl
theorem rchain_f (l : List S38) (hl : l.length ≤ 9223372036854775807) (k : Nat) (hk : l.length < k) : tontineref1_Chain.f k l = some (riseB l) := by
  unfold tontineref1_Chain.f
  rcases Nat.eq_zero_or_pos l.length with h0 | h0
  · obtain rfl : l = [] := List.eq_nil_of_length_eq_zero h0
    obtain ⟨k, rfl⟩ : ∃ m, k = m + 1 := ⟨k - 1, by omega⟩
    simp [tontineref1_Chain.l0, riseB]
  · exact rchain_l l hl (l.length - 1) 0 k (by omega) (by omega)
/-- As Option.bind_some, told so that the kernel is handed a step, not a computation. -/
theorem bind_some' {α β : Type} (a : α) (f : α → Option β) : (some a).bind f = f a := by simp
end Go.Proofs.YtjgdcifbhmjinaaDoor.Lab
