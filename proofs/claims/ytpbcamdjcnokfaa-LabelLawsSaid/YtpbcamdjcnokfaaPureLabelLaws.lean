/- Both labels together and both in common: in whatever order, however bracketed, with oneself, one within the other. For every three labels. -/
import Derived.Test.YtpbcamdjcnokfaaPx8
import Derived.Test.YtpbcamdjcnokfaaLab
namespace Go.Proofs.Ytpbcamdjcnokfaa.Pure
open Go Go.RowKit Go.Proofs.Ytpbcamdjcnokfaa Go.Proofs.Ytpbcamdjcnokfaa.P Go.Proofs.Ytpbcamdjcnokfaa.Bits64 Go.Proofs.Ytpbcamdjcnokfaa.Lab Go.Proofs.YtpbcamdjcnokfaaW.PrintWords Go.Proofs.YtpbcamdjcnokfaaW.PrintLast Go.Proofs.YtpbcamdjcnokfaaW.PrintMore

theorem LabelLaws : ∀ (x0 : S24) (x1 : S24) (x2 : S24), wf24 x0 → wf24 x1 → wf24 x2 → ∃ k, tontinelaw1_LabelLaws.f k x0.f0 x0.f1 x1.f0 x1.f1 x2.f0 x2.f1 = some true := by
  rintro ⟨a0, a1⟩ ⟨b0, b1⟩ ⟨c0, c1⟩ ⟨_, ha⟩ ⟨_, hb⟩ ⟨_, hc⟩
  dsimp only at ha hb hc ⊢
  refine ⟨4, ?_⟩
  unfold tontinelaw1_LabelLaws.f
  rw [known_f _ (by omega)]
  simp only [Option.bind_some, label_Join.f, label_Meet.f, if_true, or_eq, and_eq, B_I]
  have m1 : mx a0 b0 = mx b0 a0 := by unfold mx; split <;> split <;> omega
  have m2 : mn a0 b0 = mn b0 a0 := by unfold mn; split <;> split <;> omega
  have m3 : mx a0 (mx b0 c0) = mx (mx a0 b0) c0 := by unfold mx; (repeat' split) <;> omega
  have m4 : mn a0 (mn b0 c0) = mn (mn a0 b0) c0 := by unfold mn; (repeat' split) <;> omega
  have m5 : mx a0 a0 = a0 := by unfold mx; split <;> omega
  have m6 : mn a0 a0 = a0 := by unfold mn; split <;> omega
  have m7 : mx a0 (mn a0 b0) = a0 := by unfold mx mn; (repeat' split) <;> omega
  have m8 : mn a0 (mx a0 b0) = a0 := by unfold mx mn; (repeat' split) <;> omega
  have o1 : B a1 ||| B b1 = B b1 ||| B a1 := BitVec.or_comm _ _
  have o2 : B a1 &&& B b1 = B b1 &&& B a1 := BitVec.and_comm _ _
  have o3 : B a1 ||| (B b1 ||| B c1) = (B a1 ||| B b1) ||| B c1 := (BitVec.or_assoc _ _ _).symm
  have o4 : B a1 &&& (B b1 &&& B c1) = (B a1 &&& B b1) &&& B c1 := (BitVec.and_assoc _ _ _).symm
  have o5 : I (B a1 ||| B a1) = a1 := by rw [BitVec.or_self]; exact I_B ha.1 ha.2
  have o6 : I (B a1 &&& B a1) = a1 := by rw [BitVec.and_self]; exact I_B ha.1 ha.2
  have o7 : B a1 ||| (B a1 &&& B b1) = B a1 := by
    rw [BitVec.or_comm]; exact or_eq_right.2 (sub_and.1 (Sub.refl _)).1
  have o8 : B a1 &&& (B a1 ||| B b1) = B a1 := and_eq_left.2 (sub_or.1 (Sub.refl _)).1
  have i1 := I_B ha.1 ha.2
  rw [m1, m2, m3, m4, o3, o4, m5, m6, o5, o6]
  rw [← m1, ← m2, m7, m8, o7, o8, i1, o1, o2]
  simp
end Go.Proofs.Ytpbcamdjcnokfaa.Pure
