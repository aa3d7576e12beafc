/- Numbers that are spoiled: cut off, longer than they need be: what the reader says; and bytes made of a string. -/
import Derived.Test.YtiejhnijfgdapaaWireR
import Derived.WalkKit
import Derived.ArgAppend
import Derived.Lib.ConvBytes
import Derived.Laws.BytesArg
namespace Go.Proofs.Ytiejhnijfgdapaa.P
open Go Go.RowKit Go.Proofs.Ytiejhnijfgdapaa Go.Proofs.Ytiejhnijfgdapaa.WireR Go.Proofs.YtiejhnijfgdapaaW.PrintWords Go.Proofs.YtiejhnijfgdapaaW.PrintLast Go.Proofs.YtiejhnijfgdapaaW.PrintMore
theorem err_num (k : Nat) (s : ByteArray) (most e : Int) (h : wire_number.f (k + 2) s = some (0, 0, some e)) : wire_Reader_Num.f (k + 2) s none most = some (0, s, some e) := rnum_bad k s most 0 0 e h
/-- A number is its bytes ahead of the last one, and that one; what it is when it is spoiled. -/
theorem spoil (m : Nat) (hm : m ≤ 1048577) : ∃ (I : List Int) (x : Nat), encN m = I ++ [(x : Int)] ∧ x < 128 ∧ I.length ≤ 2 ∧ Bytes I ∧
    wire_number.f 40 (strOfNums I) = some (0, 0, some 11) ∧ wire_number.f 40 (strOfNums (I ++ [((128 + x : Nat) : Int), 0])) = some (0, 0, some 10) := by
  have z2 : ∀ (k : Nat) (s : ByteArray) (i a : Nat), s.size = i → wire_number.l0 (k + 1) s a (i : Int) = some (0, 0, some 11) := fun k s i a h => by
    rw [← h]; exact stop_num k s _
  have z0 : ∀ (k : Nat) (s : ByteArray) (i a : Nat), i + 1 = s.size → 1 ≤ i → i < 4 → bt s (i : Int) = ((0 : Nat) : Int) → a < 2 ^ (7 * i) → wire_number.l0 (k + 2) s a (i : Int) = some (0, 0, some 10) := fun k s i a h1 h2 h3 h4 h5 => by
    rw [step_num k s a i 0 (by omega) h3 h4 (by omega) h5, stepR, if_pos (.inr ⟨rfl, h2⟩)]
  by_cases c1 : m < 128
  · refine ⟨[], m, by simp [encN, c1], c1, by simp, fun x hx => by simp at hx, z2 39 _ 0 0 (by rw [size_num]; rfl), ?_⟩
    have hB : Bytes ([] ++ [((128 + m : Nat) : Int), 0]) := by
      intro y hy
      simp at hy
      rcases hy with rfl | rfl <;> omega
    have hs := size_num ([] ++ [((128 + m : Nat) : Int), 0])
    have b0 := bt_num _ hB 0 (by simp)
    have b1 := bt_num _ hB 1 (by simp)
    generalize strOfNums ([] ++ [((128 + m : Nat) : Int), 0]) = s at *
    simp at hs b0 b1
    have s0 := step_num 38 s 0 0 (128 + m) (by omega) (by omega) (by simpa using b0) (by omega) (by omega)
    unfold wire_number.f
    rw [show ((0 : Nat) : Int) = 0 from rfl] at s0
    rw [s0, stepR, if_neg (by omega), if_neg (by omega)]
    exact z0 36 s 1 _ (by omega) (by omega) (by omega) (by simpa using b1) (by omega)
  · by_cases c2 : m < 16384
    · have h7 : (2 : Nat) ^ (7 * 1) = 128 := rfl
      refine ⟨[((128 + m % 128 : Nat) : Int)], m / 128, by simp [encN, c1, c2], by omega, by simp, fun x hx => by simp at hx; subst hx; omega, ?_, ?_⟩
      · have hB : Bytes [((128 + m % 128 : Nat) : Int)] := fun x hx => by simp at hx; subst hx; omega
        have hs := size_num [((128 + m % 128 : Nat) : Int)]
        have b0 := bt_num _ hB 0 (by simp)
        generalize strOfNums [((128 + m % 128 : Nat) : Int)] = s at *
        simp at hs b0
        have s0 := step_num 38 s 0 0 (128 + m % 128) (by omega) (by omega) (by simpa using b0) (by omega) (by omega)
        unfold wire_number.f
        rw [show ((0 : Nat) : Int) = 0 from rfl] at s0
        rw [s0, stepR, if_neg (by omega), if_neg (by omega)]
        exact z2 37 s 1 _ (by omega)
      · have hB : Bytes ([((128 + m % 128 : Nat) : Int)] ++ [((128 + m / 128 : Nat) : Int), 0]) := fun x hx => by
          simp at hx
          rcases hx with rfl | rfl | rfl <;> omega
        have hs := size_num ([((128 + m % 128 : Nat) : Int)] ++ [((128 + m / 128 : Nat) : Int), 0])
        have b0 := bt_num _ hB 0 (by simp)
        have b1 := bt_num _ hB 1 (by simp)
        have b2 := bt_num _ hB 2 (by simp)
        generalize strOfNums ([((128 + m % 128 : Nat) : Int)] ++ [((128 + m / 128 : Nat) : Int), 0]) = s at *
        simp at hs b0 b1 b2
        have s0 := step_num 38 s 0 0 (128 + m % 128) (by omega) (by omega) (by simpa using b0) (by omega) (by omega)
        have s1 := step_num 36 s (0 + 2 ^ (7 * 0) * ((128 + m % 128) % 128)) 1 (128 + m / 128) (by omega) (by omega) (by simpa using b1) (by omega) (by omega)
        unfold wire_number.f
        rw [show ((0 : Nat) : Int) = 0 from rfl] at s0
        rw [s0, stepR, if_neg (by omega), if_neg (by omega), show 0 + 1 = 1 from rfl, s1, stepR, if_neg (by omega), if_neg (by omega)]
        exact z0 34 s 2 _ (by omega) (by omega) (by omega) (by simpa using b2) (by omega)
    · refine ⟨[((128 + m % 128 : Nat) : Int), ((128 + m / 128 % 128 : Nat) : Int)], m / 16384, by simp [encN, c1, c2], by omega, by simp, fun x hx => by simp at hx; rcases hx with rfl | rfl <;> omega, ?_, ?_⟩
      · have hB : Bytes [((128 + m % 128 : Nat) : Int), ((128 + m / 128 % 128 : Nat) : Int)] := fun x hx => by
          simp at hx
          rcases hx with rfl | rfl <;> omega
        have hs := size_num [((128 + m % 128 : Nat) : Int), ((128 + m / 128 % 128 : Nat) : Int)]
        have b0 := bt_num _ hB 0 (by simp)
        have b1 := bt_num _ hB 1 (by simp)
        generalize strOfNums [((128 + m % 128 : Nat) : Int), ((128 + m / 128 % 128 : Nat) : Int)] = s at *
        simp at hs b0 b1
        have s0 := step_num 38 s 0 0 (128 + m % 128) (by omega) (by omega) (by simpa using b0) (by omega) (by omega)
        have s1 := step_num 36 s (0 + 2 ^ (7 * 0) * ((128 + m % 128) % 128)) 1 (128 + m / 128 % 128) (by omega) (by omega) (by simpa using b1) (by omega) (by omega)
        unfold wire_number.f
        rw [show ((0 : Nat) : Int) = 0 from rfl] at s0
        rw [s0, stepR, if_neg (by omega), if_neg (by omega), show 0 + 1 = 1 from rfl, s1, stepR, if_neg (by omega), if_neg (by omega)]
        exact z2 35 s 2 _ (by omega)
      · have hB : Bytes ([((128 + m % 128 : Nat) : Int), ((128 + m / 128 % 128 : Nat) : Int)] ++ [((128 + m / 16384 : Nat) : Int), 0]) := fun x hx => by
          simp at hx
          rcases hx with rfl | rfl | rfl | rfl <;> omega
        have hs := size_num ([((128 + m % 128 : Nat) : Int), ((128 + m / 128 % 128 : Nat) : Int)] ++ [((128 + m / 16384 : Nat) : Int), 0])
        have b0 := bt_num _ hB 0 (by simp)
        have b1 := bt_num _ hB 1 (by simp)
        have b2 := bt_num _ hB 2 (by simp)
        have b3 := bt_num _ hB 3 (by simp)
        generalize strOfNums ([((128 + m % 128 : Nat) : Int), ((128 + m / 128 % 128 : Nat) : Int)] ++ [((128 + m / 16384 : Nat) : Int), 0]) = s at *
        simp at hs b0 b1 b2 b3
        have s0 := step_num 38 s 0 0 (128 + m % 128) (by omega) (by omega) (by simpa using b0) (by omega) (by omega)
        have s1 := step_num 36 s (0 + 2 ^ (7 * 0) * ((128 + m % 128) % 128)) 1 (128 + m / 128 % 128) (by omega) (by omega) (by simpa using b1) (by omega) (by omega)
        have s2 := step_num 34 s (0 + 2 ^ (7 * 0) * ((128 + m % 128) % 128) + 2 ^ (7 * 1) * ((128 + m / 128 % 128) % 128)) 2 (128 + m / 16384) (by omega) (by omega) (by simpa using b2) (by omega) (by omega)
        unfold wire_number.f
        rw [show ((0 : Nat) : Int) = 0 from rfl] at s0
        rw [s0, stepR, if_neg (by omega), if_neg (by omega), show 0 + 1 = 1 from rfl, s1, stepR, if_neg (by omega), if_neg (by omega), show 1 + 1 = 2 from rfl, s2, stepR, if_neg (by omega), if_neg (by omega)]
        exact z0 32 s 3 _ (by omega) (by omega) (by omega) (by simpa using b3) (by omega)
theorem or128 (x : Nat) (h : x < 128) : bits .or .u8 (x : Int) 128 = ((128 + x : Nat) : Int) := by
  have : ∀ y : Fin 128, bits .or .u8 ((y.1 : Nat) : Int) 128 = ((128 + y.1 : Nat) : Int) := by decide
  exact this ⟨x, h⟩
/-- '[]byte(s)': a new row. -/
theorem conv_b (w : World) (L : List Int) (hB : Bytes L) (n : Nat) (hn : L.length = n) (h3 : n ≤ 100) : ∃ wb cap, (convert 9 40 (.string (strOfNums L))).run Try.prog w = .ok (.slice (some ⟨w.heap.size, 0, none⟩) n cap) wb ∧ n ≤ cap ∧ cap ≤ 9223372036854775807 ∧
    Below w.heap.size w wb ∧ wb.heap.size = w.heap.size + 1 ∧ (∀ j, j < n → wb.cell? ⟨w.heap.size, j, none⟩ = some (.int .u8 (L.getD j 0))) ∧
    (∀ j, j < cap → (wb.cell? ⟨w.heap.size, j, none⟩).isSome = true ∧ wb.frozen? ⟨w.heap.size, j, none⟩ = false) := by
  have hs := size_num L
  refine ⟨_, _, (Lib.run_convert_string_bytes w 9 40 5 _ Try.underlying9 Try.underlying40 Try.underlying5).trans (by rw [hs, hn]), ?_, ?_, ?_, Lib.bytesWorld_size _ _ _, ?_, ?_⟩
  · exact grownCap_ge w n 0 5
  · have := grownCap_le_maxLen w n 0 5 (by simp only [maxLen]; omega)
    simp only [maxLen] at this
    omega
  · refine ⟨?_, ?_, ?_, ?_, fun k hk => Lib.bytesWorld_at_old w 5 _ k hk⟩
    · simp [Lib.bytesWorld, World.freeze, World.alloc, World.drew, -World.alloc_eq, -World.drew_eq]
    · simp [Lib.bytesWorld, World.freeze, World.alloc, World.drew, -World.alloc_eq, -World.drew_eq]
    · simp [Lib.bytesWorld, World.freeze, World.alloc, World.drew, -World.alloc_eq, -World.drew_eq]
    · rw [Lib.bytesWorld_size]; omega
  · intro j hj
    rw [Lib.bytesWorld_cell _ _ _ _ (by rw [hs, hn]; exact hj)]
    have hb := hB (L.getD j 0) (by simp [List.getD, show j < L.length by omega])
    rw [strOfNums_data]
    have hj' : j < L.length := by omega
    simp only [List.getD, List.getElem?_map, List.getElem?_eq_getElem hj', Option.map_some, Option.getD_some] at hb ⊢
    congr 2
    rw [UInt8.toNat_ofNat']
    omega
  · intro j hj
    have hz : (Lib.bytesCells w 5 (strOfNums L)).size = grownCap w n 0 5 := by
      have h1 := grownCap_ge w n 0 5
      have h2 : (strOfNums L).data.size = n := by rw [← hn, ← hs]; rfl
      simp only [Lib.bytesCells, Array.size_append, Array.size_map, Array.size_replicate]
      rw [hs, hn, h2]
      omega
    have hat := Lib.bytesWorld_at_new w 5 (strOfNums L)
    have hlt : j < (Lib.bytesCells w 5 (strOfNums L)).size := by rw [hz]; exact hj
    refine ⟨?_, ?_⟩
    · simp [World.cell?, hat, hlt]
    · simp [World.frozen?, hat]
      omega
end Go.Proofs.Ytiejhnijfgdapaa.P
