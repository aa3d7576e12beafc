/- ScriptUnlike, out of the evaluator: case by case. -/
import Derived.Test.YthbbofaolcfgiaaLwScriptUnlike0
import Derived.Test.YthbbofaolcfgiaaLwScriptUnlike1
import Derived.Test.YthbbofaolcfgiaaLwScriptUnlike2
import Derived.Test.YthbbofaolcfgiaaLwScriptUnlike3
namespace Go.Proofs.Ythbbofaolcfgiaa.P
open Go Go.RowKit Go.Proofs.Ythbbofaolcfgiaa.Ev Go.Proofs.Ythbbofaolcfgiaa.EvX
theorem scriptUnlike_ev : ∀ (i0 : Nat) (i1 : Nat), i0 < 9 → i1 < 4 → truth Try.prog exK evF 1000000 100 6 [.ab .u8 0 255 9 i0, .ab .u8 0 255 4 i1] = true
  | 0, 0, _, _ => scriptUnlike_0_0
  | 0, 1, _, _ => scriptUnlike_0_1
  | 0, 2, _, _ => scriptUnlike_0_2
  | 0, 3, _, _ => scriptUnlike_0_3
  | 1, 0, _, _ => scriptUnlike_1_0
  | 1, 1, _, _ => scriptUnlike_1_1
  | 1, 2, _, _ => scriptUnlike_1_2
  | 1, 3, _, _ => scriptUnlike_1_3
  | 2, 0, _, _ => scriptUnlike_2_0
  | 2, 1, _, _ => scriptUnlike_2_1
  | 2, 2, _, _ => scriptUnlike_2_2
  | 2, 3, _, _ => scriptUnlike_2_3
  | 3, 0, _, _ => scriptUnlike_3_0
  | 3, 1, _, _ => scriptUnlike_3_1
  | 3, 2, _, _ => scriptUnlike_3_2
  | 3, 3, _, _ => scriptUnlike_3_3
  | 4, 0, _, _ => scriptUnlike_4_0
  | 4, 1, _, _ => scriptUnlike_4_1
  | 4, 2, _, _ => scriptUnlike_4_2
  | 4, 3, _, _ => scriptUnlike_4_3
  | 5, 0, _, _ => scriptUnlike_5_0
  | 5, 1, _, _ => scriptUnlike_5_1
  | 5, 2, _, _ => scriptUnlike_5_2
  | 5, 3, _, _ => scriptUnlike_5_3
  | 6, 0, _, _ => scriptUnlike_6_0
  | 6, 1, _, _ => scriptUnlike_6_1
  | 6, 2, _, _ => scriptUnlike_6_2
  | 6, 3, _, _ => scriptUnlike_6_3
  | 7, 0, _, _ => scriptUnlike_7_0
  | 7, 1, _, _ => scriptUnlike_7_1
  | 7, 2, _, _ => scriptUnlike_7_2
  | 7, 3, _, _ => scriptUnlike_7_3
  | 8, 0, _, _ => scriptUnlike_8_0
  | 8, 1, _, _ => scriptUnlike_8_1
  | 8, 2, _, _ => scriptUnlike_8_2
  | 8, 3, _, _ => scriptUnlike_8_3
  | n + 9, _, h, _ => absurd h (by omega)
  | _, n + 4, _, h => absurd h (by omega)
def ext_6.f (x0 : Int) (x1 : Int) : Option Bool := if (0 ≤ x0 ∧ x0 ≤ 255) ∧ (0 ≤ x1 ∧ x1 ≤ 255) then some true else none
theorem ext_6.calls (x0 : Int) (x1 : Int) (r : Bool) (_hrt : r = true) (w : World) (h : ext_6.f x0 x1 = some r) :
    Calls Try.prog 6 #[.int .u8 x0, .int .u8 x1] w fun e w' => e = .returned (.bool r) ∧ Below w.heap.size w w' := by
  unfold ext_6.f at h
  split at h
  · rename_i hx
    obtain rfl := Option.some.inj h
    obtain ⟨h0, h1⟩ := hx
    exact truth_calls (P := Try.prog) evF_ok exK_ok evMixed (truth_of (scriptUnlike_ev (x0 % 9).toNat (x1 % 4).toNat (by omega) (by omega))) (xs := [.int .u8 x0, .int .u8 x1]) (.cons (.ab h0.1 h0.2 (by omega)) (.cons (.ab h1.1 h1.2 (by omega)) .nil))
  · exact absurd h (by simp)
end Go.Proofs.Ythbbofaolcfgiaa.P
