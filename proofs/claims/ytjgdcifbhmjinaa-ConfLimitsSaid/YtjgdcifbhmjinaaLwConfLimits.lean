/- ConfLimits, out of the evaluator: case by case. -/
import Derived.Test.YtjgdcifbhmjinaaEvKn
namespace Go.Proofs.Ytjgdcifbhmjinaa.P
open Go Go.RowKit Go.Proofs.Ytjgdcifbhmjinaa.Ev Go.Proofs.Ytjgdcifbhmjinaa.EvX
theorem confLimits_0_false_false : truth Try.prog exK evF 1000000 100 7 [.ab .u8 0 255 9 0, .sc (.bool false), .sc (.bool false)] = true := by decide +kernel
theorem confLimits_0_false_true : truth Try.prog exK evF 1000000 100 7 [.ab .u8 0 255 9 0, .sc (.bool false), .sc (.bool true)] = true := by decide +kernel
theorem confLimits_0_true_false : truth Try.prog exK evF 1000000 100 7 [.ab .u8 0 255 9 0, .sc (.bool true), .sc (.bool false)] = true := by decide +kernel
theorem confLimits_0_true_true : truth Try.prog exK evF 1000000 100 7 [.ab .u8 0 255 9 0, .sc (.bool true), .sc (.bool true)] = true := by decide +kernel
theorem confLimits_1_false_false : truth Try.prog exK evF 1000000 100 7 [.ab .u8 0 255 9 1, .sc (.bool false), .sc (.bool false)] = true := by decide +kernel
theorem confLimits_1_false_true : truth Try.prog exK evF 1000000 100 7 [.ab .u8 0 255 9 1, .sc (.bool false), .sc (.bool true)] = true := by decide +kernel
theorem confLimits_1_true_false : truth Try.prog exK evF 1000000 100 7 [.ab .u8 0 255 9 1, .sc (.bool true), .sc (.bool false)] = true := by decide +kernel
theorem confLimits_1_true_true : truth Try.prog exK evF 1000000 100 7 [.ab .u8 0 255 9 1, .sc (.bool true), .sc (.bool true)] = true := by decide +kernel
theorem confLimits_2_false_false : truth Try.prog exK evF 1000000 100 7 [.ab .u8 0 255 9 2, .sc (.bool false), .sc (.bool false)] = true := by decide +kernel
theorem confLimits_2_false_true : truth Try.prog exK evF 1000000 100 7 [.ab .u8 0 255 9 2, .sc (.bool false), .sc (.bool true)] = true := by decide +kernel
theorem confLimits_2_true_false : truth Try.prog exK evF 1000000 100 7 [.ab .u8 0 255 9 2, .sc (.bool true), .sc (.bool false)] = true := by decide +kernel
theorem confLimits_2_true_true : truth Try.prog exK evF 1000000 100 7 [.ab .u8 0 255 9 2, .sc (.bool true), .sc (.bool true)] = true := by decide +kernel
theorem confLimits_3_false_false : truth Try.prog exK evF 1000000 100 7 [.ab .u8 0 255 9 3, .sc (.bool false), .sc (.bool false)] = true := by decide +kernel
theorem confLimits_3_false_true : truth Try.prog exK evF 1000000 100 7 [.ab .u8 0 255 9 3, .sc (.bool false), .sc (.bool true)] = true := by decide +kernel
theorem confLimits_3_true_false : truth Try.prog exK evF 1000000 100 7 [.ab .u8 0 255 9 3, .sc (.bool true), .sc (.bool false)] = true := by decide +kernel
theorem confLimits_3_true_true : truth Try.prog exK evF 1000000 100 7 [.ab .u8 0 255 9 3, .sc (.bool true), .sc (.bool true)] = true := by decide +kernel
theorem confLimits_4_false_false : truth Try.prog exK evF 1000000 100 7 [.ab .u8 0 255 9 4, .sc (.bool false), .sc (.bool false)] = true := by decide +kernel
theorem confLimits_4_false_true : truth Try.prog exK evF 1000000 100 7 [.ab .u8 0 255 9 4, .sc (.bool false), .sc (.bool true)] = true := by decide +kernel
theorem confLimits_4_true_false : truth Try.prog exK evF 1000000 100 7 [.ab .u8 0 255 9 4, .sc (.bool true), .sc (.bool false)] = true := by decide +kernel
theorem confLimits_4_true_true : truth Try.prog exK evF 1000000 100 7 [.ab .u8 0 255 9 4, .sc (.bool true), .sc (.bool true)] = true := by decide +kernel
theorem confLimits_5_false_false : truth Try.prog exK evF 1000000 100 7 [.ab .u8 0 255 9 5, .sc (.bool false), .sc (.bool false)] = true := by decide +kernel
theorem confLimits_5_false_true : truth Try.prog exK evF 1000000 100 7 [.ab .u8 0 255 9 5, .sc (.bool false), .sc (.bool true)] = true := by decide +kernel
theorem confLimits_5_true_false : truth Try.prog exK evF 1000000 100 7 [.ab .u8 0 255 9 5, .sc (.bool true), .sc (.bool false)] = true := by decide +kernel
theorem confLimits_5_true_true : truth Try.prog exK evF 1000000 100 7 [.ab .u8 0 255 9 5, .sc (.bool true), .sc (.bool true)] = true := by decide +kernel
theorem confLimits_6_false_false : truth Try.prog exK evF 1000000 100 7 [.ab .u8 0 255 9 6, .sc (.bool false), .sc (.bool false)] = true := by decide +kernel
theorem confLimits_6_false_true : truth Try.prog exK evF 1000000 100 7 [.ab .u8 0 255 9 6, .sc (.bool false), .sc (.bool true)] = true := by decide +kernel
theorem confLimits_6_true_false : truth Try.prog exK evF 1000000 100 7 [.ab .u8 0 255 9 6, .sc (.bool true), .sc (.bool false)] = true := by decide +kernel
theorem confLimits_6_true_true : truth Try.prog exK evF 1000000 100 7 [.ab .u8 0 255 9 6, .sc (.bool true), .sc (.bool true)] = true := by decide +kernel
theorem confLimits_7_false_false : truth Try.prog exK evF 1000000 100 7 [.ab .u8 0 255 9 7, .sc (.bool false), .sc (.bool false)] = true := by decide +kernel
theorem confLimits_7_false_true : truth Try.prog exK evF 1000000 100 7 [.ab .u8 0 255 9 7, .sc (.bool false), .sc (.bool true)] = true := by decide +kernel
theorem confLimits_7_true_false : truth Try.prog exK evF 1000000 100 7 [.ab .u8 0 255 9 7, .sc (.bool true), .sc (.bool false)] = true := by decide +kernel
theorem confLimits_7_true_true : truth Try.prog exK evF 1000000 100 7 [.ab .u8 0 255 9 7, .sc (.bool true), .sc (.bool true)] = true := by decide +kernel
theorem confLimits_8_false_false : truth Try.prog exK evF 1000000 100 7 [.ab .u8 0 255 9 8, .sc (.bool false), .sc (.bool false)] = true := by decide +kernel
theorem confLimits_8_false_true : truth Try.prog exK evF 1000000 100 7 [.ab .u8 0 255 9 8, .sc (.bool false), .sc (.bool true)] = true := by decide +kernel
theorem confLimits_8_true_false : truth Try.prog exK evF 1000000 100 7 [.ab .u8 0 255 9 8, .sc (.bool true), .sc (.bool false)] = true := by decide +kernel
theorem confLimits_8_true_true : truth Try.prog exK evF 1000000 100 7 [.ab .u8 0 255 9 8, .sc (.bool true), .sc (.bool true)] = true := by decide +kernel
theorem confLimits_ev : ∀ (i0 : Nat) (i1 : Bool) (i2 : Bool), i0 < 9 → truth Try.prog exK evF 1000000 100 7 [.ab .u8 0 255 9 i0, .sc (.bool i1), .sc (.bool i2)] = true
  | 0, false, false, _ => confLimits_0_false_false
  | 0, false, true, _ => confLimits_0_false_true
  | 0, true, false, _ => confLimits_0_true_false
  | 0, true, true, _ => confLimits_0_true_true
  | 1, false, false, _ => confLimits_1_false_false
  | 1, false, true, _ => confLimits_1_false_true
  | 1, true, false, _ => confLimits_1_true_false
  | 1, true, true, _ => confLimits_1_true_true
  | 2, false, false, _ => confLimits_2_false_false
  | 2, false, true, _ => confLimits_2_false_true
  | 2, true, false, _ => confLimits_2_true_false
  | 2, true, true, _ => confLimits_2_true_true
  | 3, false, false, _ => confLimits_3_false_false
  | 3, false, true, _ => confLimits_3_false_true
  | 3, true, false, _ => confLimits_3_true_false
  | 3, true, true, _ => confLimits_3_true_true
  | 4, false, false, _ => confLimits_4_false_false
  | 4, false, true, _ => confLimits_4_false_true
  | 4, true, false, _ => confLimits_4_true_false
  | 4, true, true, _ => confLimits_4_true_true
  | 5, false, false, _ => confLimits_5_false_false
  | 5, false, true, _ => confLimits_5_false_true
  | 5, true, false, _ => confLimits_5_true_false
  | 5, true, true, _ => confLimits_5_true_true
  | 6, false, false, _ => confLimits_6_false_false
  | 6, false, true, _ => confLimits_6_false_true
  | 6, true, false, _ => confLimits_6_true_false
  | 6, true, true, _ => confLimits_6_true_true
  | 7, false, false, _ => confLimits_7_false_false
  | 7, false, true, _ => confLimits_7_false_true
  | 7, true, false, _ => confLimits_7_true_false
  | 7, true, true, _ => confLimits_7_true_true
  | 8, false, false, _ => confLimits_8_false_false
  | 8, false, true, _ => confLimits_8_false_true
  | 8, true, false, _ => confLimits_8_true_false
  | 8, true, true, _ => confLimits_8_true_true
  | n + 9, _, _, h => absurd h (by omega)
def ext_7.f (x0 : Int) (_x1 : Bool) (_x2 : Bool) : Option Bool := if (0 ≤ x0 ∧ x0 ≤ 255) then some true else none
theorem ext_7.calls (x0 : Int) (x1 : Bool) (x2 : Bool) (r : Bool) (_hrt : r = true) (w : World) (h : ext_7.f x0 x1 x2 = some r) :
    Calls Try.prog 7 #[.int .u8 x0, .bool x1, .bool x2] w fun e w' => e = .returned (.bool r) ∧ Below w.heap.size w w' := by
  unfold ext_7.f at h
  split at h
  · rename_i hx
    obtain rfl := Option.some.inj h
    have h0 := hx
    exact truth_calls (P := Try.prog) evF_ok exK_ok evMixed (truth_of (confLimits_ev (x0 % 9).toNat x1 x2 (by omega))) (xs := [.int .u8 x0, .bool x1, .bool x2]) (.cons (.ab h0.1 h0.2 (by omega)) (.cons .sc (.cons .sc .nil)))
  · exact absurd h (by simp)
end Go.Proofs.Ytjgdcifbhmjinaa.P
