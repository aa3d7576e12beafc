/- Each label flows to itself; what flows both ways is the same; what flows twice flows at once. For every three labels. -/
import Derived.Test.YtpbcamdjcnokfaaPx6
import Derived.Test.YtpbcamdjcnokfaaLab
namespace Go.Proofs.Ytpbcamdjcnokfaa.Pure
open Go Go.RowKit Go.Proofs.Ytpbcamdjcnokfaa Go.Proofs.Ytpbcamdjcnokfaa.P Go.Proofs.Ytpbcamdjcnokfaa.Bits64 Go.Proofs.Ytpbcamdjcnokfaa.Lab Go.Proofs.YtpbcamdjcnokfaaW.PrintWords Go.Proofs.YtpbcamdjcnokfaaW.PrintLast Go.Proofs.YtpbcamdjcnokfaaW.PrintMore

theorem LabelOrder : ∀ (x0 : S24) (x1 : S24) (x2 : S24), wf24 x0 → wf24 x1 → wf24 x2 → ∃ k, tontinelaw1_LabelOrder.f k x0.f0 x0.f1 x1.f0 x1.f1 x2.f0 x2.f1 = some true := by
  rintro ⟨a0, a1⟩ ⟨b0, b1⟩ ⟨c0, c1⟩ ⟨_, ha⟩ ⟨_, hb⟩ ⟨_, hc⟩
  dsimp only at ha hb hc ⊢
  refine ⟨4, ?_⟩
  unfold tontinelaw1_LabelOrder.f
  have haa : leqB a0 a1 a0 a1 = true := (leqB_iff ..).2 ⟨Int.le_refl _, Sub.refl _⟩
  have key : tontinelaw1_LabelOrder.j0 4 false a0 a1 b0 b1 c0 c1 = some true := by
    simp only [tontinelaw1_LabelOrder.j0, leq_f, Option.bind_some]
    cases h1 : leqB a0 a1 b0 b1 <;> cases h2 : leqB b0 b1 c0 c1 <;> simp
    obtain ⟨p, q⟩ := (leqB_iff ..).1 h1
    obtain ⟨p', q'⟩ := (leqB_iff ..).1 h2
    exact (leqB_iff ..).2 ⟨Int.le_trans p p', q.trans q'⟩
  rw [known_f _ (by omega)]
  simp only [leq_f, Option.bind_some, haa, if_true]
  cases h1 : leqB a0 a1 b0 b1 <;> cases h2 : leqB b0 b1 a0 a1 <;> simp [key]
  obtain ⟨p, q⟩ := (leqB_iff ..).1 h1
  obtain ⟨p', q'⟩ := (leqB_iff ..).1 h2
  obtain rfl : a0 = b0 := Int.le_antisymm p p'
  have e := q.antisymm q'
  have : a1 = b1 := by rw [← I_B ha.1 ha.2, ← I_B hb.1 hb.2, e]
  subst this
  simpa using key
end Go.Proofs.Ytpbcamdjcnokfaa.Pure
