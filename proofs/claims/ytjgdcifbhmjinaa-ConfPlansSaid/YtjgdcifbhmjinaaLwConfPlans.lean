/- ConfPlans, out of the evaluator: case by case. -/
import Derived.Test.YtjgdcifbhmjinaaEvKn
namespace Go.Proofs.Ytjgdcifbhmjinaa.P
open Go Go.RowKit Go.Proofs.Ytjgdcifbhmjinaa.Ev Go.Proofs.Ytjgdcifbhmjinaa.EvX
theorem confPlans_0_0 : truth Try.prog exK evF 1000000 100 10 [.ab .u8 0 255 5 0, .ab .u8 0 255 3 0] = true := by decide +kernel
theorem confPlans_0_1 : truth Try.prog exK evF 1000000 100 10 [.ab .u8 0 255 5 0, .ab .u8 0 255 3 1] = true := by decide +kernel
theorem confPlans_0_2 : truth Try.prog exK evF 1000000 100 10 [.ab .u8 0 255 5 0, .ab .u8 0 255 3 2] = true := by decide +kernel
theorem confPlans_1_0 : truth Try.prog exK evF 1000000 100 10 [.ab .u8 0 255 5 1, .ab .u8 0 255 3 0] = true := by decide +kernel
theorem confPlans_1_1 : truth Try.prog exK evF 1000000 100 10 [.ab .u8 0 255 5 1, .ab .u8 0 255 3 1] = true := by decide +kernel
theorem confPlans_1_2 : truth Try.prog exK evF 1000000 100 10 [.ab .u8 0 255 5 1, .ab .u8 0 255 3 2] = true := by decide +kernel
theorem confPlans_2_0 : truth Try.prog exK evF 1000000 100 10 [.ab .u8 0 255 5 2, .ab .u8 0 255 3 0] = true := by decide +kernel
theorem confPlans_2_1 : truth Try.prog exK evF 1000000 100 10 [.ab .u8 0 255 5 2, .ab .u8 0 255 3 1] = true := by decide +kernel
theorem confPlans_2_2 : truth Try.prog exK evF 1000000 100 10 [.ab .u8 0 255 5 2, .ab .u8 0 255 3 2] = true := by decide +kernel
theorem confPlans_3_0 : truth Try.prog exK evF 1000000 100 10 [.ab .u8 0 255 5 3, .ab .u8 0 255 3 0] = true := by decide +kernel
theorem confPlans_3_1 : truth Try.prog exK evF 1000000 100 10 [.ab .u8 0 255 5 3, .ab .u8 0 255 3 1] = true := by decide +kernel
theorem confPlans_3_2 : truth Try.prog exK evF 1000000 100 10 [.ab .u8 0 255 5 3, .ab .u8 0 255 3 2] = true := by decide +kernel
theorem confPlans_4_0 : truth Try.prog exK evF 1000000 100 10 [.ab .u8 0 255 5 4, .ab .u8 0 255 3 0] = true := by decide +kernel
theorem confPlans_4_1 : truth Try.prog exK evF 1000000 100 10 [.ab .u8 0 255 5 4, .ab .u8 0 255 3 1] = true := by decide +kernel
theorem confPlans_4_2 : truth Try.prog exK evF 1000000 100 10 [.ab .u8 0 255 5 4, .ab .u8 0 255 3 2] = true := by decide +kernel
theorem confPlans_ev : ∀ (i0 : Nat) (i1 : Nat), i0 < 5 → i1 < 3 → truth Try.prog exK evF 1000000 100 10 [.ab .u8 0 255 5 i0, .ab .u8 0 255 3 i1] = true
  | 0, 0, _, _ => confPlans_0_0
  | 0, 1, _, _ => confPlans_0_1
  | 0, 2, _, _ => confPlans_0_2
  | 1, 0, _, _ => confPlans_1_0
  | 1, 1, _, _ => confPlans_1_1
  | 1, 2, _, _ => confPlans_1_2
  | 2, 0, _, _ => confPlans_2_0
  | 2, 1, _, _ => confPlans_2_1
  | 2, 2, _, _ => confPlans_2_2
  | 3, 0, _, _ => confPlans_3_0
  | 3, 1, _, _ => confPlans_3_1
  | 3, 2, _, _ => confPlans_3_2
  | 4, 0, _, _ => confPlans_4_0
  | 4, 1, _, _ => confPlans_4_1
  | 4, 2, _, _ => confPlans_4_2
  | n + 5, _, h, _ => absurd h (by omega)
  | _, n + 3, _, h => absurd h (by omega)
def ext_10.f (x0 : Int) (x1 : Int) : Option Bool := if (0 ≤ x0 ∧ x0 ≤ 255) ∧ (0 ≤ x1 ∧ x1 ≤ 255) then some true else none
theorem ext_10.calls (x0 : Int) (x1 : Int) (r : Bool) (_hrt : r = true) (w : World) (h : ext_10.f x0 x1 = some r) :
    Calls Try.prog 10 #[.int .u8 x0, .int .u8 x1] w fun e w' => e = .returned (.bool r) ∧ Below w.heap.size w w' := by
  unfold ext_10.f at h
  split at h
  · rename_i hx
    obtain rfl := Option.some.inj h
    obtain ⟨h0, h1⟩ := hx
    exact truth_calls (P := Try.prog) evF_ok exK_ok evMixed (truth_of (confPlans_ev (x0 % 5).toNat (x1 % 3).toNat (by omega) (by omega))) (xs := [.int .u8 x0, .int .u8 x1]) (.cons (.ab h0.1 h0.2 (by omega)) (.cons (.ab h1.1 h1.2 (by omega)) .nil))
  · exact absurd h (by simp)
end Go.Proofs.Ytjgdcifbhmjinaa.P
