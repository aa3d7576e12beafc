/- Both labels together are the least that both flow to; both in common the greatest that flows to both. For every three labels. -/
import Derived.Test.YtpbcamdjcnokfaaPx5
import Derived.Test.YtpbcamdjcnokfaaRd
import Derived.Test.YtpbcamdjcnokfaaLab
namespace Go.Proofs.Ytpbcamdjcnokfaa.Pure
open Go Go.RowKit Go.Proofs.Ytpbcamdjcnokfaa Go.Proofs.Ytpbcamdjcnokfaa.P Go.Proofs.Ytpbcamdjcnokfaa.Bits64 Go.Proofs.Ytpbcamdjcnokfaa.Lab Go.Proofs.YtpbcamdjcnokfaaW.PrintWords Go.Proofs.YtpbcamdjcnokfaaW.PrintLast Go.Proofs.YtpbcamdjcnokfaaW.PrintMore

theorem known_b (k : Nat) (hk : 3 ≤ k) : tontinelaw1_known.f k = some true := by
  have h3 : tontinelaw1_known.f 3 = some true := by decide +kernel
  obtain ⟨d, rfl⟩ : ∃ d, k = 3 + d := ⟨k - 3, by omega⟩
  clear hk
  induction d with
  | zero => exact h3
  | succ d ih => exact tontinelaw1_known.mono (3 + d) _ ih
theorem bool_eq {a b : Bool} (h : a = true ↔ b = true) : a = b := by
  cases a <;> cases b <;> simp_all
theorem LabelBounds : ∀ (x0 : S24) (x1 : S24) (x2 : S24), wf24 x0 → wf24 x1 → wf24 x2 → ∃ k, tontinelaw1_LabelBounds.f k x0.f0 x0.f1 x1.f0 x1.f1 x2.f0 x2.f1 = some true := by
  rintro ⟨a0, a1⟩ ⟨b0, b1⟩ ⟨c0, c1⟩ ⟨_, ha⟩ ⟨_, hb⟩ ⟨_, hc⟩
  dsimp only at ha hb hc ⊢
  have i1 := I_B ha.1 ha.2
  have i2 := I_B hb.1 hb.2
  have m1 : a0 ≤ mx a0 b0 ∧ b0 ≤ mx a0 b0 ∧ mn a0 b0 ≤ a0 ∧ mn a0 b0 ≤ b0 := by unfold mx mn; (repeat' split) <;> omega
  have m2 : mx a0 b0 ≤ c0 ↔ a0 ≤ c0 ∧ b0 ≤ c0 := by unfold mx; split <;> omega
  have m3 : c0 ≤ mn a0 b0 ↔ c0 ≤ a0 ∧ c0 ≤ b0 := by unfold mn; split <;> omega
  have m4 : a0 ≤ b0 ↔ mx a0 b0 = b0 := by unfold mx; split <;> omega
  have m5 : a0 ≤ b0 ↔ mn a0 b0 = a0 := by unfold mn; split <;> omega
  have s1 := sub_or.1 (Sub.refl (B a1 ||| B b1))
  have s2 := sub_and.1 (Sub.refl (B a1 &&& B b1))
  have e1 : B (I (B a1 ||| B b1)) = B a1 ||| B b1 := B_I _
  have e2 : B (I (B a1 &&& B b1)) = B a1 &&& B b1 := B_I _
  have p1 : leqB a0 a1 (mx a0 b0) (I (B a1 ||| B b1)) = true := by rw [leqB_iff, e1]; exact ⟨m1.1, s1.1⟩
  have p2 : leqB b0 b1 (mx a0 b0) (I (B a1 ||| B b1)) = true := by rw [leqB_iff, e1]; exact ⟨m1.2.1, s1.2⟩
  have p3 : leqB (mn a0 b0) (I (B a1 &&& B b1)) a0 a1 = true := by rw [leqB_iff, e2]; exact ⟨m1.2.2.1, s2.1⟩
  have p4 : leqB (mn a0 b0) (I (B a1 &&& B b1)) b0 b1 = true := by rw [leqB_iff, e2]; exact ⟨m1.2.2.2, s2.2⟩
  have q1 : leqB (mx a0 b0) (I (B a1 ||| B b1)) c0 c1 = (leqB a0 a1 c0 c1 && leqB b0 b1 c0 c1) := by
    apply bool_eq; rw [Bool.and_eq_true, leqB_iff, leqB_iff, leqB_iff, e1, sub_or, m2]
    exact ⟨fun ⟨⟨x, y⟩, u, v⟩ => ⟨⟨x, u⟩, y, v⟩, fun ⟨⟨x, u⟩, y, v⟩ => ⟨⟨x, y⟩, u, v⟩⟩
  have q2 : leqB c0 c1 (mn a0 b0) (I (B a1 &&& B b1)) = (leqB c0 c1 a0 a1 && leqB c0 c1 b0 b1) := by
    apply bool_eq; rw [Bool.and_eq_true, leqB_iff, leqB_iff, leqB_iff, e2, sub_and, m3]
    exact ⟨fun ⟨⟨x, y⟩, u, v⟩ => ⟨⟨x, u⟩, y, v⟩, fun ⟨⟨x, u⟩, y, v⟩ => ⟨⟨x, y⟩, u, v⟩⟩
  have q3 : (mx a0 b0 == b0 && I (B a1 ||| B b1) == b1) = leqB a0 a1 b0 b1 := by
    apply bool_eq; rw [Bool.and_eq_true, beq_iff_eq, beq_iff_eq, leqB_iff, ← m4]
    refine and_congr_right fun _ => ⟨fun h => or_eq_right.1 ?_, fun h => by rw [or_eq_right.2 h]; exact i2⟩
    rw [← e1, h]
  have q4 : (mn a0 b0 == a0 && I (B a1 &&& B b1) == a1) = leqB a0 a1 b0 b1 := by
    apply bool_eq; rw [Bool.and_eq_true, beq_iff_eq, beq_iff_eq, leqB_iff, ← m5]
    refine and_congr_right fun _ => ⟨fun h => and_eq_left.1 ?_, fun h => by rw [and_eq_left.2 h]; exact i1⟩
    rw [← e2, h]
  refine ⟨4, ?_⟩
  unfold tontinelaw1_LabelBounds.f
  rw [known_b _ (by omega)]
  simp only [bind_some', label_Join.f, label_Meet.f, if_true, or_eq, and_eq, leq_f, p1, p2, p3, p4]
  unfold tontinelaw1_LabelBounds.j0
  simp only [bind_some', leq_f, q1, q2, q3, q4, Bool.not_true]
  generalize leqB a0 a1 c0 c1 = u
  generalize leqB b0 b1 c0 c1 = v
  generalize leqB c0 c1 a0 a1 = x
  generalize leqB c0 c1 b0 b1 = y
  cases u <;> cases v <;> cases x <;> cases y <;> simp
end Go.Proofs.Ytpbcamdjcnokfaa.Pure
