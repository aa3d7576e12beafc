/- Of every two labels and every row of labels the program's tells (is it one, what flows, both together, both in common, do they rise) are the document's. For every input. -/
import Derived.Test.YtpbcamdjcnokfaaPx5
import Derived.Test.YtpbcamdjcnokfaaLab
namespace Go.Proofs.Ytpbcamdjcnokfaa.Pure
open Go Go.RowKit Go.Proofs.Ytpbcamdjcnokfaa Go.Proofs.Ytpbcamdjcnokfaa.P Go.Proofs.Ytpbcamdjcnokfaa.Bits64 Go.Proofs.Ytpbcamdjcnokfaa.Lab Go.Proofs.YtpbcamdjcnokfaaW.PrintWords Go.Proofs.YtpbcamdjcnokfaaW.PrintLast Go.Proofs.YtpbcamdjcnokfaaW.PrintMore

theorem LabelTells : ∀ (x0 : S24) (x1 : S24) (x2 : List (S24)), wf24 x0 → wf24 x1 → (x2.length ≤ 9223372036854775807 ∧ ∀ y ∈ x2, wf24 y) → ∃ k, tontinelaw1_LabelTells.f k x0.f0 x0.f1 x1.f0 x1.f1 x2 = some true := by
  intro x0 x1 l _ _ hl
  refine ⟨l.length + 3, ?_⟩
  unfold tontinelaw1_LabelTells.f
  rw [known_f _ (by omega), chain_f l _ (by omega), rchain_f l hl.1 _ (by omega)]
  have e1 : tontineref1_IsLabel.f x0.f0 x0.f1 = label_Is.f x0.f0 x0.f1 := rfl
  have e2 : tontineref1_Join.f x0.f0 x0.f1 x1.f0 x1.f1 = label_Join.f x0.f0 x0.f1 x1.f0 x1.f1 := rfl
  have e3 : tontineref1_Meet.f x0.f0 x0.f1 x1.f0 x1.f1 = label_Meet.f x0.f0 x0.f1 x1.f0 x1.f1 := rfl
  have e4 : ∃ b, label_Is.f x0.f0 x0.f1 = some b := by unfold label_Is.f; split <;> exact ⟨_, rfl⟩
  obtain ⟨b, hb⟩ := e4
  rw [e1, e2, e3, leq_f, rleq_f, hb]
  simp only [Option.bind_some, label_Join.f, label_Meet.f, if_true, beq_self_eq_true, Bool.and_self]
  split <;> rfl
end Go.Proofs.Ytpbcamdjcnokfaa.Pure
