/- TraceJoint's plain law: the walk has shown it. -/
import Derived.Test.YtlmllmbbdlkknaaDoorJof
import Derived.Test.YtlmllmbbdlkknaaDoorRd
namespace Go.Proofs.YtlmllmbbdlkknaaDoor.Pure
open Go Go.RowKit Go.Proofs.YtlmllmbbdlkknaaDoor Go.Proofs.YtlmllmbbdlkknaaDoor.P Go.Proofs.YtlmllmbbdlkknaaDoorW.PrintWords Go.Proofs.YtlmllmbbdlkknaaDoorW.PrintLast
theorem okO_wf {l : List S35} (h : ∀ y ∈ l, wf35 y) : l.all okO = true := by
  rw [List.all_eq_true]
  intro o ho
  obtain ⟨h0, _, h2, h3, h4, h5⟩ := h o ho
  unfold okO
  simp only [Bool.and_eq_true]
  exact ⟨⟨⟨⟨in64_iff.2 h0, in64_iff.2 h2⟩, in64_iff.2 h3⟩, in64_iff.2 h4⟩, in64_iff.2 h5⟩
theorem TraceJoint : ∀ (x0 : S25) (x1 : List (List (S35))) (x2 : List (List (S35))) (x3 : S30) (x4 : S30), wf25 x0 → (x1.length ≤ 9223372036854775807 ∧ ∀ y ∈ x1, (y.length ≤ 9223372036854775807 ∧ ∀ z ∈ y, wf35 z)) → (x2.length ≤ 9223372036854775807 ∧ ∀ y ∈ x2, (y.length ≤ 9223372036854775807 ∧ ∀ z ∈ y, wf35 z)) → wf30 x3 → wf30 x4 → ext_5.f x0.f0 x0.f1 x0.f2 x0.f3 x1 x2 x3.f0 x3.f1 x4.f0 x4.f1 = some true := by
  rintro ⟨a, b, plans, doms⟩ tr ts ⟨la, lb⟩ ⟨ma, mb⟩ hw ⟨_, h1⟩ ⟨_, h2⟩ _ _
  obtain ⟨_, _, hp, hd⟩ := hw
  dsimp only at hp hd ⊢
  refine if_pos ?_
  unfold okAll
  simp only [Bool.and_eq_true, decide_eq_true_eq, List.all_eq_true]
  exact ⟨⟨⟨⟨hp.1, hd.1⟩, fun d h => (hd.2 d h).2.1.1⟩, fun l hl => List.all_eq_true.1 (okO_wf (h1 l hl).2)⟩, fun l hl => List.all_eq_true.1 (okO_wf (h2 l hl).2)⟩
end Go.Proofs.YtlmllmbbdlkknaaDoor.Pure
