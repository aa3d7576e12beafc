import Derived.Test.YtjgdcifbhmjinaaLwConfLimits
namespace Go.Proofs.Ytjgdcifbhmjinaa.Pure
open Go.Proofs.Ytjgdcifbhmjinaa.P
theorem ConfLimits : ∀ (x0 : Int) (x1 : Bool) (x2 : Bool), (0 ≤ x0 ∧ x0 ≤ 255) → ext_7.f x0 x1 x2 = some true := fun _ _ _ h0 => by
  unfold ext_7.f
  exact if_pos h0
end Go.Proofs.Ytjgdcifbhmjinaa.Pure
