import Derived.Test.YtjgdcifbhmjinaaLwConfOrder
namespace Go.Proofs.Ytjgdcifbhmjinaa.Pure
open Go.Proofs.Ytjgdcifbhmjinaa.P
theorem ConfOrder : ∀ (x0 : Bool) (x1 : Bool) (x2 : Bool) (x3 : Bool), ext_11.f x0 x1 x2 x3 = some true := fun _ _ _ _ => rfl
end Go.Proofs.Ytjgdcifbhmjinaa.Pure
