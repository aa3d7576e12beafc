import Derived.Test.YtjgdcifbhmjinaaLwConfFlows
import Derived.Test.YtjgdcifbhmjinaaRd
namespace Go.Proofs.Ytjgdcifbhmjinaa.Pure
open Go.RowKit Go.Proofs.Ytjgdcifbhmjinaa.P Go.Proofs.YtjgdcifbhmjinaaW.PrintWords Go.Proofs.YtjgdcifbhmjinaaW.PrintLast
theorem ConfFlows : ∀ (x0 : S40) (x1 : S40) (x2 : Bool), wf40 x0 → wf40 x1 → ext_8.f x0.f0 x0.f1 x1.f0 x1.f1 x2 = some true := by
  intro x0 x1 x2 h0 h1
  unfold ext_8.f
  obtain ⟨_, a1, a2⟩ := h0
  obtain ⟨_, b1, b2⟩ := h1
  exact if_pos ⟨⟨a1, by omega⟩, ⟨b1, by omega⟩⟩
end Go.Proofs.Ytjgdcifbhmjinaa.Pure
