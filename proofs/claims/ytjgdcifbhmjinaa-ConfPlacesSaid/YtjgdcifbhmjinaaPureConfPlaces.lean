import Derived.Test.YtjgdcifbhmjinaaLwConfPlaces
namespace Go.Proofs.Ytjgdcifbhmjinaa.Pure
open Go.Proofs.Ytjgdcifbhmjinaa.P
theorem ConfPlaces : ∀ (x0 : Int) (x1 : Int), (0 ≤ x0 ∧ x0 ≤ 255) → (-9223372036854775808 ≤ x1 ∧ x1 ≤ 9223372036854775807) → ext_9.f x0 x1 = some true := fun _ _ h0 h1 => by
  unfold ext_9.f
  exact if_pos ⟨h0, h1⟩
end Go.Proofs.Ytjgdcifbhmjinaa.Pure
