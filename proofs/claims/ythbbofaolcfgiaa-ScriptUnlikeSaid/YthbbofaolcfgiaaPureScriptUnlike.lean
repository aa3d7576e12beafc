import Derived.Test.YthbbofaolcfgiaaLwScriptUnlike
namespace Go.Proofs.Ythbbofaolcfgiaa.Pure
open Go.Proofs.Ythbbofaolcfgiaa.P
theorem ScriptUnlike : ∀ (x0 : Int) (x1 : Int), (0 ≤ x0 ∧ x0 ≤ 255) → (0 ≤ x1 ∧ x1 ≤ 255) → ext_6.f x0 x1 = some true := fun _ _ h0 h1 => by
  unfold ext_6.f
  exact if_pos ⟨h0, h1⟩
end Go.Proofs.Ythbbofaolcfgiaa.Pure
