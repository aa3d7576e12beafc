import Derived.Test.YtjgdcifbhmjinaaLwConfPlans
namespace Go.Proofs.Ytjgdcifbhmjinaa.Pure
open Go.Proofs.Ytjgdcifbhmjinaa.P
theorem ConfPlans : ∀ (x0 : Int) (x1 : Int), (0 ≤ x0 ∧ x0 ≤ 255) → (0 ≤ x1 ∧ x1 ≤ 255) → ext_10.f x0 x1 = some true := fun _ _ h0 h1 => by
  unfold ext_10.f
  exact if_pos ⟨h0, h1⟩
end Go.Proofs.Ytjgdcifbhmjinaa.Pure
