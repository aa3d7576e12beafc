/- Labels, as the printed functions tell them: what flows where; rows that rise. -/
import Derived.Test.YtnnkmkejcmdjpaaPx4
import Derived.Test.YtnnkmkejcmdjpaaPx5
import Derived.Test.YtnnkmkejcmdjpaaRd
import Derived.Test.YtnnkmkejcmdjpaaBits64
namespace Go.Proofs.Ytnnkmkejcmdjpaa.Lab
open Go Go.RowKit Go.Proofs.Ytnnkmkejcmdjpaa Go.Proofs.Ytnnkmkejcmdjpaa.P Go.Proofs.Ytnnkmkejcmdjpaa.Bits64 Go.Proofs.YtnnkmkejcmdjpaaW.PrintWords Go.Proofs.YtnnkmkejcmdjpaaW.PrintLast Go.Proofs.YtnnkmkejcmdjpaaW.PrintMore

def leqB (a0 a1 b0 b1 : Int) : Bool := decide (a0 ≤ b0) && (bits .andNot .u64 a1 b1 == 0)
theorem leq_f (a0 a1 b0 b1 : Int) : label_Leq.f a0 a1 b0 b1 = some (leqB a0 a1 b0 b1) := by
  unfold label_Leq.f leqB; by_cases h : a0 ≤ b0 <;> simp [h]
theorem leqB_iff (a0 a1 b0 b1 : Int) : leqB a0 a1 b0 b1 = true ↔ a0 ≤ b0 ∧ Sub (B a1) (B b1) := by
  simp [leqB, andNot_zero]
def sameB (x y : S32) : Bool := x.f0 == y.f0 && x.f1 == y.f1
/-- Whether labels rise. -/
def riseB : List S32 → Bool
  | x :: y :: l => !sameB x y && leqB x.f0 x.f1 y.f0 y.f1 && riseB (y :: l)
  | _ => true
theorem round_ {a b c d : Bool} {n : Int} (hc : c = a) {r : Bool} (hd : d = (!a && b && r)) (hn : 1 ≤ n) :
    (if c = true then some false else ((some b).bind fun t => if t = true then (if 1 ≤ n then some r else none) else some false)) = some d := by
  subst hc hd; cases c <;> cases b <;> simp [hn]
theorem round2_ {a b c d : Bool} (hc : c = a) {r : Bool} (hd : d = (!a && b && r)) :
    ((some b).bind fun t => if t = true then (if c = true then some false else some r) else some false) = some d := by
  subst hc hd; cases c <;> cases b <;> simp
theorem chain_f : ∀ (l : List S32) (k : Nat), l.length < k → label_Chain.f k l = some (riseB l) := by
  intro l
  unfold label_Chain.f
  induction l with
  | nil => intro k hk; obtain ⟨k, rfl⟩ : ∃ m, k = m + 1 := ⟨k - 1, by omega⟩; simp [label_Chain.l0, riseB]
  | cons x l ih =>
    intro k hk
    obtain ⟨k, rfl⟩ : ∃ m, k = m + 1 := ⟨k - 1, by omega⟩
    cases l with
    | nil => simp [label_Chain.l0, riseB]
    | cons y l =>
      have h := ih k (by simp at hk ⊢; omega)
      simp only [label_Chain.l0]
      rw [if_neg (by simp; omega), if_pos (by simp; omega), if_pos (by simp; omega)]
      have e0 : rd_T32 (x :: y :: l) 0 = x := rfl
      have e1 : rd_T32 (x :: y :: l) 1 = y := rfl
      have e2 : (x :: y :: l).drop 1 = y :: l := rfl
      rw [e0, e1, e2, leq_f, h]
      have h1 : (1 : Int) ≤ ((x :: y :: l).length : Int) := by simp; omega
      exact round_ (a := sameB x y) (b := leqB x.f0 x.f1 y.f0 y.f1) rfl rfl h1
theorem wrap_in {n : Int} (h0 : -9223372036854775808 ≤ n) (h1 : n ≤ 9223372036854775807) : wrap64 n = n := by
  unfold wrap64; omega
/-- As Option.bind_some, told so that the kernel is handed a step, not a computation. -/
theorem bind_some' {α β : Type} (a : α) (f : α → Option β) : (some a).bind f = f a := by simp
end Go.Proofs.Ytnnkmkejcmdjpaa.Lab
