/- ConfPlaces, out of the evaluator: case by case. -/
import Derived.Test.YtjgdcifbhmjinaaEvKn
namespace Go.Proofs.Ytjgdcifbhmjinaa.P
open Go Go.RowKit Go.Proofs.Ytjgdcifbhmjinaa.Ev Go.Proofs.Ytjgdcifbhmjinaa.EvX
theorem confPlaces_0_0 : truth Try.prog exK evF 1000000 100 9 [.ab .u8 0 255 6 0, .ab .i64 (-9223372036854775808) (-2) 1 0] = true := by decide +kernel
theorem confPlaces_0_1 : truth Try.prog exK evF 1000000 100 9 [.ab .u8 0 255 6 0, .ab .i64 (-1) (-1) 1 0] = true := by decide +kernel
theorem confPlaces_0_2 : truth Try.prog exK evF 1000000 100 9 [.ab .u8 0 255 6 0, .ab .i64 (0) (0) 1 0] = true := by decide +kernel
theorem confPlaces_0_3 : truth Try.prog exK evF 1000000 100 9 [.ab .u8 0 255 6 0, .ab .i64 (1) (1) 1 0] = true := by decide +kernel
theorem confPlaces_0_4 : truth Try.prog exK evF 1000000 100 9 [.ab .u8 0 255 6 0, .ab .i64 (2) (2) 1 0] = true := by decide +kernel
theorem confPlaces_0_5 : truth Try.prog exK evF 1000000 100 9 [.ab .u8 0 255 6 0, .ab .i64 (3) (3) 1 0] = true := by decide +kernel
theorem confPlaces_0_6 : truth Try.prog exK evF 1000000 100 9 [.ab .u8 0 255 6 0, .ab .i64 (4) (9223372036854775807) 1 0] = true := by decide +kernel
theorem confPlaces_1_0 : truth Try.prog exK evF 1000000 100 9 [.ab .u8 0 255 6 1, .ab .i64 (-9223372036854775808) (-2) 1 0] = true := by decide +kernel
theorem confPlaces_1_1 : truth Try.prog exK evF 1000000 100 9 [.ab .u8 0 255 6 1, .ab .i64 (-1) (-1) 1 0] = true := by decide +kernel
theorem confPlaces_1_2 : truth Try.prog exK evF 1000000 100 9 [.ab .u8 0 255 6 1, .ab .i64 (0) (0) 1 0] = true := by decide +kernel
theorem confPlaces_1_3 : truth Try.prog exK evF 1000000 100 9 [.ab .u8 0 255 6 1, .ab .i64 (1) (1) 1 0] = true := by decide +kernel
theorem confPlaces_1_4 : truth Try.prog exK evF 1000000 100 9 [.ab .u8 0 255 6 1, .ab .i64 (2) (2) 1 0] = true := by decide +kernel
theorem confPlaces_1_5 : truth Try.prog exK evF 1000000 100 9 [.ab .u8 0 255 6 1, .ab .i64 (3) (3) 1 0] = true := by decide +kernel
theorem confPlaces_1_6 : truth Try.prog exK evF 1000000 100 9 [.ab .u8 0 255 6 1, .ab .i64 (4) (9223372036854775807) 1 0] = true := by decide +kernel
theorem confPlaces_2_0 : truth Try.prog exK evF 1000000 100 9 [.ab .u8 0 255 6 2, .ab .i64 (-9223372036854775808) (-2) 1 0] = true := by decide +kernel
theorem confPlaces_2_1 : truth Try.prog exK evF 1000000 100 9 [.ab .u8 0 255 6 2, .ab .i64 (-1) (-1) 1 0] = true := by decide +kernel
theorem confPlaces_2_2 : truth Try.prog exK evF 1000000 100 9 [.ab .u8 0 255 6 2, .ab .i64 (0) (0) 1 0] = true := by decide +kernel
theorem confPlaces_2_3 : truth Try.prog exK evF 1000000 100 9 [.ab .u8 0 255 6 2, .ab .i64 (1) (1) 1 0] = true := by decide +kernel
theorem confPlaces_2_4 : truth Try.prog exK evF 1000000 100 9 [.ab .u8 0 255 6 2, .ab .i64 (2) (2) 1 0] = true := by decide +kernel
theorem confPlaces_2_5 : truth Try.prog exK evF 1000000 100 9 [.ab .u8 0 255 6 2, .ab .i64 (3) (3) 1 0] = true := by decide +kernel
theorem confPlaces_2_6 : truth Try.prog exK evF 1000000 100 9 [.ab .u8 0 255 6 2, .ab .i64 (4) (9223372036854775807) 1 0] = true := by decide +kernel
theorem confPlaces_3_0 : truth Try.prog exK evF 1000000 100 9 [.ab .u8 0 255 6 3, .ab .i64 (-9223372036854775808) (-2) 1 0] = true := by decide +kernel
theorem confPlaces_3_1 : truth Try.prog exK evF 1000000 100 9 [.ab .u8 0 255 6 3, .ab .i64 (-1) (-1) 1 0] = true := by decide +kernel
theorem confPlaces_3_2 : truth Try.prog exK evF 1000000 100 9 [.ab .u8 0 255 6 3, .ab .i64 (0) (0) 1 0] = true := by decide +kernel
theorem confPlaces_3_3 : truth Try.prog exK evF 1000000 100 9 [.ab .u8 0 255 6 3, .ab .i64 (1) (1) 1 0] = true := by decide +kernel
theorem confPlaces_3_4 : truth Try.prog exK evF 1000000 100 9 [.ab .u8 0 255 6 3, .ab .i64 (2) (2) 1 0] = true := by decide +kernel
theorem confPlaces_3_5 : truth Try.prog exK evF 1000000 100 9 [.ab .u8 0 255 6 3, .ab .i64 (3) (3) 1 0] = true := by decide +kernel
theorem confPlaces_3_6 : truth Try.prog exK evF 1000000 100 9 [.ab .u8 0 255 6 3, .ab .i64 (4) (9223372036854775807) 1 0] = true := by decide +kernel
theorem confPlaces_4_0 : truth Try.prog exK evF 1000000 100 9 [.ab .u8 0 255 6 4, .ab .i64 (-9223372036854775808) (-2) 1 0] = true := by decide +kernel
theorem confPlaces_4_1 : truth Try.prog exK evF 1000000 100 9 [.ab .u8 0 255 6 4, .ab .i64 (-1) (-1) 1 0] = true := by decide +kernel
theorem confPlaces_4_2 : truth Try.prog exK evF 1000000 100 9 [.ab .u8 0 255 6 4, .ab .i64 (0) (0) 1 0] = true := by decide +kernel
theorem confPlaces_4_3 : truth Try.prog exK evF 1000000 100 9 [.ab .u8 0 255 6 4, .ab .i64 (1) (1) 1 0] = true := by decide +kernel
theorem confPlaces_4_4 : truth Try.prog exK evF 1000000 100 9 [.ab .u8 0 255 6 4, .ab .i64 (2) (2) 1 0] = true := by decide +kernel
theorem confPlaces_4_5 : truth Try.prog exK evF 1000000 100 9 [.ab .u8 0 255 6 4, .ab .i64 (3) (3) 1 0] = true := by decide +kernel
theorem confPlaces_4_6 : truth Try.prog exK evF 1000000 100 9 [.ab .u8 0 255 6 4, .ab .i64 (4) (9223372036854775807) 1 0] = true := by decide +kernel
theorem confPlaces_5_0 : truth Try.prog exK evF 1000000 100 9 [.ab .u8 0 255 6 5, .ab .i64 (-9223372036854775808) (-2) 1 0] = true := by decide +kernel
theorem confPlaces_5_1 : truth Try.prog exK evF 1000000 100 9 [.ab .u8 0 255 6 5, .ab .i64 (-1) (-1) 1 0] = true := by decide +kernel
theorem confPlaces_5_2 : truth Try.prog exK evF 1000000 100 9 [.ab .u8 0 255 6 5, .ab .i64 (0) (0) 1 0] = true := by decide +kernel
theorem confPlaces_5_3 : truth Try.prog exK evF 1000000 100 9 [.ab .u8 0 255 6 5, .ab .i64 (1) (1) 1 0] = true := by decide +kernel
theorem confPlaces_5_4 : truth Try.prog exK evF 1000000 100 9 [.ab .u8 0 255 6 5, .ab .i64 (2) (2) 1 0] = true := by decide +kernel
theorem confPlaces_5_5 : truth Try.prog exK evF 1000000 100 9 [.ab .u8 0 255 6 5, .ab .i64 (3) (3) 1 0] = true := by decide +kernel
theorem confPlaces_5_6 : truth Try.prog exK evF 1000000 100 9 [.ab .u8 0 255 6 5, .ab .i64 (4) (9223372036854775807) 1 0] = true := by decide +kernel
def confPlaces_p1 : Nat → Int × Int
  | 0 => (-9223372036854775808, -2)
  | 1 => (-1, -1)
  | 2 => (0, 0)
  | 3 => (1, 1)
  | 4 => (2, 2)
  | 5 => (3, 3)
  | _ => (4, 9223372036854775807)
theorem confPlaces_ev : ∀ (i0 : Nat) (i1 : Nat), i0 < 6 → i1 < 7 → truth Try.prog exK evF 1000000 100 9 [.ab .u8 0 255 6 i0, .ab .i64 (confPlaces_p1 i1).1 (confPlaces_p1 i1).2 1 0] = true
  | 0, 0, _, _ => confPlaces_0_0
  | 0, 1, _, _ => confPlaces_0_1
  | 0, 2, _, _ => confPlaces_0_2
  | 0, 3, _, _ => confPlaces_0_3
  | 0, 4, _, _ => confPlaces_0_4
  | 0, 5, _, _ => confPlaces_0_5
  | 0, 6, _, _ => confPlaces_0_6
  | 1, 0, _, _ => confPlaces_1_0
  | 1, 1, _, _ => confPlaces_1_1
  | 1, 2, _, _ => confPlaces_1_2
  | 1, 3, _, _ => confPlaces_1_3
  | 1, 4, _, _ => confPlaces_1_4
  | 1, 5, _, _ => confPlaces_1_5
  | 1, 6, _, _ => confPlaces_1_6
  | 2, 0, _, _ => confPlaces_2_0
  | 2, 1, _, _ => confPlaces_2_1
  | 2, 2, _, _ => confPlaces_2_2
  | 2, 3, _, _ => confPlaces_2_3
  | 2, 4, _, _ => confPlaces_2_4
  | 2, 5, _, _ => confPlaces_2_5
  | 2, 6, _, _ => confPlaces_2_6
  | 3, 0, _, _ => confPlaces_3_0
  | 3, 1, _, _ => confPlaces_3_1
  | 3, 2, _, _ => confPlaces_3_2
  | 3, 3, _, _ => confPlaces_3_3
  | 3, 4, _, _ => confPlaces_3_4
  | 3, 5, _, _ => confPlaces_3_5
  | 3, 6, _, _ => confPlaces_3_6
  | 4, 0, _, _ => confPlaces_4_0
  | 4, 1, _, _ => confPlaces_4_1
  | 4, 2, _, _ => confPlaces_4_2
  | 4, 3, _, _ => confPlaces_4_3
  | 4, 4, _, _ => confPlaces_4_4
  | 4, 5, _, _ => confPlaces_4_5
  | 4, 6, _, _ => confPlaces_4_6
  | 5, 0, _, _ => confPlaces_5_0
  | 5, 1, _, _ => confPlaces_5_1
  | 5, 2, _, _ => confPlaces_5_2
  | 5, 3, _, _ => confPlaces_5_3
  | 5, 4, _, _ => confPlaces_5_4
  | 5, 5, _, _ => confPlaces_5_5
  | 5, 6, _, _ => confPlaces_5_6
  | n + 6, _, h, _ => absurd h (by omega)
  | _, n + 7, _, h => absurd h (by omega)
theorem confPlaces_p1_ok (n : Int) (h : -9223372036854775808 ≤ n ∧ n ≤ 9223372036854775807) : ∃ j, j < 7 ∧ (confPlaces_p1 j).1 ≤ n ∧ n ≤ (confPlaces_p1 j).2 := by
  by_cases h0 : n ≤ -2
  · exact ⟨0, by omega, by simp only [confPlaces_p1]; omega, by simp only [confPlaces_p1]; omega⟩
  by_cases h1 : n ≤ -1
  · exact ⟨1, by omega, by simp only [confPlaces_p1]; omega, by simp only [confPlaces_p1]; omega⟩
  by_cases h2 : n ≤ 0
  · exact ⟨2, by omega, by simp only [confPlaces_p1]; omega, by simp only [confPlaces_p1]; omega⟩
  by_cases h3 : n ≤ 1
  · exact ⟨3, by omega, by simp only [confPlaces_p1]; omega, by simp only [confPlaces_p1]; omega⟩
  by_cases h4 : n ≤ 2
  · exact ⟨4, by omega, by simp only [confPlaces_p1]; omega, by simp only [confPlaces_p1]; omega⟩
  by_cases h5 : n ≤ 3
  · exact ⟨5, by omega, by simp only [confPlaces_p1]; omega, by simp only [confPlaces_p1]; omega⟩
  exact ⟨6, by omega, by simp only [confPlaces_p1]; omega, by simp only [confPlaces_p1]; omega⟩
def ext_9.f (x0 : Int) (x1 : Int) : Option Bool := if (0 ≤ x0 ∧ x0 ≤ 255) ∧ (-9223372036854775808 ≤ x1 ∧ x1 ≤ 9223372036854775807) then some true else none
theorem ext_9.calls (x0 : Int) (x1 : Int) (r : Bool) (_hrt : r = true) (w : World) (h : ext_9.f x0 x1 = some r) :
    Calls Try.prog 9 #[.int .u8 x0, .int .i64 x1] w fun e w' => e = .returned (.bool r) ∧ Below w.heap.size w w' := by
  unfold ext_9.f at h
  split at h
  · rename_i hx
    obtain rfl := Option.some.inj h
    obtain ⟨h0, h1⟩ := hx
    obtain ⟨j1, l1, a1, b1⟩ := confPlaces_p1_ok x1 h1
    exact truth_calls (P := Try.prog) evF_ok exK_ok evMixed (truth_of (confPlaces_ev (x0 % 6).toNat j1 (by omega) l1)) (xs := [.int .u8 x0, .int .i64 x1]) (.cons (.ab h0.1 h0.2 (by omega)) (.cons (.ab a1 b1 (by omega)) .nil))
  · exact absurd h (by simp)
end Go.Proofs.Ytjgdcifbhmjinaa.P
