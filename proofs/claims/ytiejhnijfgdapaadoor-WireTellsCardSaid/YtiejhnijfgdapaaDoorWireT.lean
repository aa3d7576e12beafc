/- The document's writer and reader of numbers and sets, beside the program's: of every bytes both take the same. -/
import Derived.Test.YtiejhnijfgdapaaDoorPx5
import Derived.Test.YtiejhnijfgdapaaDoorPx6
import Derived.Test.YtiejhnijfgdapaaDoorPx7
import Derived.Test.YtiejhnijfgdapaaDoorPx8
import Derived.Test.YtiejhnijfgdapaaDoorWireR
namespace Go.Proofs.YtiejhnijfgdapaaDoor.WireT
open Go Go.RowKit Go.Proofs.YtiejhnijfgdapaaDoor Go.Proofs.YtiejhnijfgdapaaDoor.P Go.Proofs.YtiejhnijfgdapaaDoor.WireR Go.Proofs.YtiejhnijfgdapaaDoorW.PrintWords Go.Proofs.YtiejhnijfgdapaaDoorW.PrintLast Go.Proofs.YtiejhnijfgdapaaDoorW.PrintMore

/-- A string's bytes as numbers. -/
def bts (s : ByteArray) : List Int := s.data.toList.map fun b => (b.toNat : Int)
theorem bts_bytes (s : ByteArray) : Bytes (bts s) := by
  intro x hx
  obtain ⟨b, _, rfl⟩ := List.mem_map.mp hx
  have := b.toNat_lt
  omega
theorem of_bts (s : ByteArray) : strOfNums (bts s) = s := by
  apply ByteArray.ext
  apply Array.toList_inj.mp
  simp [strOfNums, bts, List.map_map]
  rw [show s.data.toList.map ((fun n : Int => UInt8.ofNat n.toNat) ∘ fun b : UInt8 => (b.toNat : Int)) = s.data.toList.map id from List.map_congr_left fun b _ => by simp]
  simp
theorem nums_app (a b : List Int) : strOfNums a ++ strOfNums b = strOfNums (a ++ b) := by
  apply ByteArray.ext
  apply Array.toList_inj.mp
  simp [strOfNums]
theorem bt_lt (s : ByteArray) (i : Int) : 0 ≤ bt s i ∧ bt s i < 256 := by
  unfold bt; split
  · have := (s[i.toNat]).toNat_lt; omega
  · omega
theorem low_u64 (x b : Nat) (hb : b < 256) (hx : x < 72057594037927936) : bits .or .u64 ((x * 256 : Nat) : Int) (b : Int) = ((x * 256 + b : Nat) : Int) := by
  have e := Nat.two_pow_add_eq_or_of_lt (i := 8) (b := b) (by omega) x
  rw [bits_or_u64_nat _ b (by omega) (by omega), Nat.mul_comm x 256, show 256 * x = 2 ^ 8 * x from rfl, ← e]
theorem tmod_nn (a b : Int) (h : 0 ≤ a) : Int.tmod a b = a % b := Int.tmod_eq_emod_of_nonneg h
theorem tdiv_nn (a b : Int) (h : 0 ≤ a) : Int.tdiv a b = a / b := Int.tdiv_eq_ediv_of_nonneg h

theorem modw (j : Nat) (hj : j < 2097152) : ((Int.tmod (j : Int) 128) % 256 + 128) % 256 = ((128 + j % 128 : Nat) : Int) := by
  rw [tmod_nn _ _ (by omega)]; omega
theorem divw (j : Nat) (hj : j < 2097152) : wrap64 (Int.tdiv (j : Int) 128) = ((j / 128 : Nat) : Int) := by
  rw [tdiv_nn _ _ (by omega), wrap_in (by omega) (by omega)]; omega
theorem succw (i : Nat) (h : i < 1000000) : wrap64 ((i : Int) + 1) = ((i + 1 : Nat) : Int) := by rw [wrap_in (by omega) (by omega)]; omega
theorem natw (b : Nat) (h : b < 1000000000) : wrap64 (b : Int) = (b : Int) := wrap_in (by omega) (by omega)
theorem predw (b : Nat) (h : b < 1000000000) : wrap64 ((b : Int) - 1) = (b : Int) - 1 := wrap_in (by omega) (by omega)
theorem addw (a b : Nat) (h : a + b < 1000000000) : wrap64 ((a : Int) + (b : Int)) = ((a + b : Nat) : Int) := by rw [wrap_in (by omega) (by omega)]; omega
theorem mulmod (b p : Nat) : Int.tmod (b : Int) 128 * (p : Int) = ((p * (b % 128) : Nat) : Int) := by
  rw [tmod_nn _ _ (by omega), show (b : Int) % 128 = ((b % 128 : Nat) : Int) by omega, Nat.mul_comm p]; push_cast; rfl
theorem pow7 (i : Nat) (h : i < 4) : 2 ^ (7 * i) ≤ 2097152 := by
  have : 2 ^ (7 * i) ≤ 2 ^ 21 := Nat.pow_le_pow_right (by omega) (by omega)
  omega
theorem pow7s (i : Nat) : ((2 ^ (7 * i) : Nat) : Int) * 128 = ((2 ^ (7 * (i + 1)) : Nat) : Int) := by
  rw [show 7 * (i + 1) = 7 * i + 7 by omega, Nat.pow_add]; push_cast; rfl
theorem accb (i b acc : Nat) (h : i < 4) (ha : acc < 2 ^ (7 * i)) : acc + 2 ^ (7 * i) * (b % 128) < 1000000000 := by
  have := pow7 i h
  have : 2 ^ (7 * i) * (b % 128) ≤ 2097152 * 127 := Nat.mul_le_mul this (by omega)
  omega
theorem idx8 (i : Nat) (hi : i < 9) : IntKind.u64.wrap (wrap64 (8 * (i : Int))) = ((8 * i : Nat) : Int) := by rw [wrap_in (by omega) (by omega), u64_in (by omega) (by omega)]; omega
theorem shr8 (v i : Nat) (hi : i < 9) : shr .u64 (v : Int) ((8 * i : Nat) : Int) % 256 = ((v / 2 ^ (8 * i) % 256 : Nat) : Int) := by
  unfold shr
  rw [Int.toNat_natCast, show min (8 * i) IntKind.u64.bits = 8 * i by show min (8 * i) 64 = _; omega]
  rw [Int.natCast_emod, Int.natCast_ediv, Int.natCast_pow]; rfl
theorem bitsstep (k v i : Nat) (l : List Int) (hi : i < 8) (hl : l.length = 8) : tontineref1_Bits.l0 (k + 1) (v : Int) l (i : Int) = tontineref1_Bits.l0 k (v : Int) (l.set i ((v / 2 ^ (8 * i) % 256 : Nat) : Int)) ((i + 1 : Nat) : Int) := by
  have a := idx8 i (by omega)
  have b := succw i (by omega)
  have c := shr8 v i (by omega)
  have d : (i : Int) < 8 := by omega
  have d2 : (i : Int) < (l.length : Int) := by omega
  rw [tontineref1_Bits.l0, a, b, c, Int.toNat_natCast, if_pos d, if_pos (Int.natCast_nonneg _), if_pos (Int.natCast_nonneg _), if_pos d2]
/-- The document's way to write a number. -/
theorem ge128 (x : Nat) (h : x < 128) : ¬ ((x : Int) ≥ 128) := by omega
theorem ge128' (x : Nat) (h : ¬ x < 128) : (x : Int) ≥ 128 := by omega
theorem mod256 (x : Nat) (h : x < 256) : (x : Int) % 256 = (x : Int) := by omega
theorem size1 (x : Int) : (strOfNums [x]).size = 1 := size_num [x]
theorem refnum_end (k m : Nat) (l : List Int) (hm : m < 128) (hl : l.length < 140737488350000) : tontineref1_Num.l0 (k + 1) (m : Int) (strOfNums l) = some (strOfNums (l ++ [(m : Int)])) := by
  have z : l.length + 1 ≤ 9223372036854775807 := by omega
  rw [tontineref1_Num.l0, if_neg (ge128 m hm), bind_some', mod256 m (by omega), nums_app, size1, size_num, if_pos z]
theorem refnum_go (k m : Nat) (l : List Int) (hm : m < 2097152) (h : ¬ m < 128) (hl : l.length < 140737488350000) : tontineref1_Num.l0 (k + 1) (m : Int) (strOfNums l) = tontineref1_Num.l0 k ((m / 128 : Nat) : Int) (strOfNums (l ++ [((128 + m % 128 : Nat) : Int)])) := by
  have z : l.length + 1 ≤ 9223372036854775807 := by omega
  rw [tontineref1_Num.l0, if_pos (ge128' m h), bind_some', modw m hm, divw m hm, nums_app, size1, size_num, if_pos z]
theorem refnum_l0 (k m : Nat) (l : List Int) (hm : m < 2097152) (hl : l.length < 140737488350000 - 2) : tontineref1_Num.l0 (k + 3) (m : Int) (strOfNums l) = some (strOfNums (l ++ encN m)) := by
  unfold encN
  by_cases c1 : m < 128
  · rw [if_pos c1, refnum_end (k + 2) m l c1 (by omega)]
  · rw [if_neg c1, refnum_go (k + 2) m l hm c1 (by omega)]
    by_cases c2 : m < 16384
    · rw [if_pos c2, refnum_end (k + 1) (m / 128) _ (by omega) (by rw [List.length_append]; simp; omega), List.append_assoc]; rfl
    · rw [if_neg c2, refnum_go (k + 1) (m / 128) _ (by omega) (by omega) (by rw [List.length_append]; simp; omega), refnum_end k (m / 128 / 128) _ (by omega) (by rw [List.length_append, List.length_append]; simp; omega), List.append_assoc, List.append_assoc, Nat.div_div_eq_div_mul]; rfl
theorem refnum_f (k m : Nat) (n : Int) (hn : mx (-1) (mn n 1048576) = (m : Int) - 1) (hm : m ≤ 1048577) : tontineref1_Num.f (k + 3) n = some (strOfNums (encN m)) := by
  unfold tontineref1_Num.f
  rw [hn, show (m : Int) - 1 + 1 = (m : Int) by omega]
  exact refnum_l0 k m [] (by omega) (by simp)
/-- The document's way to write a set. -/
theorem refbits_f (k v : Nat) : tontineref1_Bits.f (k + 9) (v : Int) = some (strOfNums (enc8 v)) := by
  unfold tontineref1_Bits.f
  have st := fun (k i : Nat) (l : List Int) => bitsstep k v i l
  rw [if_pos (by omega)]
  have z : ((0 : Nat) : Int) = 0 := rfl
  have s0 := st (k + 8) 0 (List.replicate 8 0) (by omega) rfl
  rw [z] at s0
  rw [show k + 9 = k + 8 + 1 from rfl, s0, st (k + 7) _ _ (by omega) (by simp), st (k + 6) _ _ (by omega) (by simp), st (k + 5) _ _ (by omega) (by simp), st (k + 4) _ _ (by omega) (by simp), st (k + 3) _ _ (by omega) (by simp), st (k + 2) _ _ (by omega) (by simp), st (k + 1) _ _ (by omega) (by simp)]
  simp only [tontineref1_Bits.l0]
  rw [if_neg (by omega)]
  simp [List.replicate, List.set, enc8]

/-- One byte of a number, as the document takes it. -/
def stepQ (k : Nat) (s : ByteArray) (most : Int) (acc i b : Nat) : Option (Int × ByteArray × Int) :=
  if (i + 1 = 4 ∧ 128 ≤ b) ∨ (b = 0 ∧ 1 ≤ i) then some (0, s, 10) else if b < 128 then (if ((acc + 2 ^ (7 * i) * (b % 128) : Nat) : Int) - 1 > most then some (0, s, 12) else some (((acc + 2 ^ (7 * i) * (b % 128) : Nat) : Int) - 1, s.extract (i + 1) s.size, 0)) else tontineref1_Reader_Num.l0 k most ((acc + 2 ^ (7 * i) * (b % 128) : Nat) : Int) ((2 ^ (7 * (i + 1)) : Nat) : Int) ((i + 1 : Nat) : Int) s 0
theorem refstep (k : Nat) (s : ByteArray) (most : Int) (acc i b : Nat) (hi : i < s.size) (hi4 : i < 4) (hb : bt s (i : Int) = (b : Int)) (hb2 : b < 256) (ha : acc < 2 ^ (7 * i)) :
    tontineref1_Reader_Num.l0 (k + 2) most (acc : Int) ((2 ^ (7 * i) : Nat) : Int) (i : Int) s 0 = stepQ k s most acc i b := by
  have hA := accb i b acc hi4 ha
  have hP := accb i b 0 hi4 (Nat.two_pow_pos _)
  have w2 := succw i (by omega)
  have w3 := natw b (by omega)
  have w4 : wrap64 (Int.tmod (b : Int) 128 * ((2 ^ (7 * i) : Nat) : Int)) = ((2 ^ (7 * i) * (b % 128) : Nat) : Int) := by rw [mulmod]; exact natw _ (by omega)
  have w5 := addw acc (2 ^ (7 * i) * (b % 128)) hA
  have w6 := predw (acc + 2 ^ (7 * i) * (b % 128)) hA
  have w7 : wrap64 (((2 ^ (7 * i) : Nat) : Int) * 128) = ((2 ^ (7 * (i + 1)) : Nat) : Int) := by
    have hp := pow7 i hi4
    rw [pow7s]; refine natw _ ?_
    rw [show 7 * (i + 1) = 7 * i + 7 by omega, Nat.pow_add]; exact (fun (x : Nat) (h : x ≤ 2097152) => (by omega : x * 128 < 1000000000)) _ hp
  have fl : ∀ e : Int, tontineref1_Reader_fails.f s 0 e = some (s, e) := fun e => by unfold tontineref1_Reader_fails.f; rw [if_pos rfl]
  have jt : ∀ (k : Nat) (x8 : Int), tontineref1_Reader_Num.j1 (k + 1) most (acc : Int) ((2 ^ (7 * i) : Nat) : Int) (i : Int) x8 true s 0 = some (0, s, 10) := fun k x8 => by
    simp only [tontineref1_Reader_Num.j1]; rw [if_pos trivial, fl, bind_some']
  have jf : ∀ (k : Nat), tontineref1_Reader_Num.j1 (k + 1) most (acc : Int) ((2 ^ (7 * i) : Nat) : Int) (i : Int) (b : Int) false s 0 = if b < 128 then (if ((acc + 2 ^ (7 * i) * (b % 128) : Nat) : Int) - 1 > most then some (0, s, 12) else some (((acc + 2 ^ (7 * i) * (b % 128) : Nat) : Int) - 1, s.extract (i + 1) s.size, 0)) else tontineref1_Reader_Num.l0 k most ((acc + 2 ^ (7 * i) * (b % 128) : Nat) : Int) ((2 ^ (7 * (i + 1)) : Nat) : Int) ((i + 1 : Nat) : Int) s 0 := fun k => by
    simp only [tontineref1_Reader_Num.j1]
    rw [if_neg (by simp), w4, w5, w6, w7, w2, fl, bind_some', Int.toNat_natCast]
    clear w2 w3 w4 w5 w6 w7 jt fl hA hP ha hb
    by_cases c : b < 128
    · rw [if_pos (by omega), if_pos c, if_pos (show (0 : Int) ≤ ((i + 1 : Nat) : Int) by omega), if_pos (show ((i + 1 : Nat) : Int) ≤ (s.size : Int) by omega)]
    · rw [if_neg (by omega), if_neg c]
  rw [show k + 2 = (k + 1) + 1 from rfl]
  simp only [tontineref1_Reader_Num.l0]
  rw [hb, w3]
  unfold stepQ
  clear w2 w3 w4 w5 w6 w7 hA hP ha hb
  rw [if_pos trivial, if_neg (show ¬ ((i : Int) ≥ (s.size : Int)) by omega), if_pos (show (0 : Int) ≤ (i : Int) by omega), if_pos (show (i : Int) < (s.size : Int) by omega)]
  by_cases c0 : 1 ≤ i
  · rw [if_pos (show (i : Int) > 0 by omega)]
    by_cases c1 : b = 0
    · rw [if_pos (show (b : Int) = 0 by omega), jt, if_pos (by omega)]
    · rw [if_neg (show ¬ (b : Int) = 0 by omega)]
      by_cases c2 : i = 3
      · rw [if_pos (show (i : Int) = 3 by omega)]
        by_cases c3 : 128 ≤ b
        · rw [show decide ((b : Int) ≥ 128) = true from decide_eq_true (by omega), jt, if_pos (by omega)]
        · rw [show decide ((b : Int) ≥ 128) = false from decide_eq_false (by omega), jf, if_neg (show ¬ ((i + 1 = 4 ∧ 128 ≤ b) ∨ (b = 0 ∧ 1 ≤ i)) by omega)]
      · rw [if_neg (show ¬ (i : Int) = 3 by omega), jf, if_neg (show ¬ ((i + 1 = 4 ∧ 128 ≤ b) ∨ (b = 0 ∧ 1 ≤ i)) by omega)]
  · rw [if_neg (show ¬ (i : Int) > 0 by omega), if_neg (show ¬ (i : Int) = 3 by omega), jf, if_neg (show ¬ ((i + 1 = 4 ∧ 128 ≤ b) ∨ (b = 0 ∧ 1 ≤ i)) by omega)]
theorem refstop (k : Nat) (s : ByteArray) (most acc at_ : Int) : tontineref1_Reader_Num.l0 (k + 1) most acc at_ (s.size : Int) s 0 = some (0, s, 11) := by
  simp only [tontineref1_Reader_Num.l0]; rw [if_pos trivial, if_pos (by omega)]; simp [tontineref1_Reader_fails.f]
/-- What was found of a number: what the document's reader makes of it. -/
def fromN (s : ByteArray) (most : Int) (r : Int × Int × Option Int) : Int × ByteArray × Int := match r.2.2 with
  | some e => (0, s, e)
  | none => if r.1 > most then (0, s, 12) else (r.1, s.extract r.2.1.toNat s.size, 0)
def okN (s : ByteArray) (r : Int × Int × Option Int) : Prop := match r.2.2 with
  | some e => e ≠ 0
  | none => 0 ≤ r.2.1 ∧ r.2.1 ≤ (s.size : Int)
theorem both_l0 (s : ByteArray) (most : Int) : ∀ (d i acc k q : Nat), i + d = 3 → i ≤ s.size → acc < 2 ^ (7 * i) → 2 * d + 2 ≤ k → 2 * d + 2 ≤ q →
    ∃ r, wire_number.l0 k s (acc : Int) (i : Int) = some r ∧ tontineref1_Reader_Num.l0 q most (acc : Int) ((2 ^ (7 * i) : Nat) : Int) (i : Int) s 0 = some (fromN s most r) ∧ okN s r := by
  intro d
  induction d with
  | zero =>
    intro i acc k q hi hs ha hk hq
    obtain ⟨k, rfl⟩ : ∃ m, k = m + 2 := ⟨k - 2, by omega⟩
    obtain ⟨q, rfl⟩ : ∃ m, q = m + 2 := ⟨q - 2, by omega⟩
    by_cases c : i = s.size
    · subst c; exact ⟨_, stop_num (k + 1) s acc, refstop (q + 1) s most acc _, by simp [okN]⟩
    · have hb := bt_lt s i
      obtain ⟨b, hb1⟩ : ∃ b : Nat, bt s (i : Int) = (b : Int) := ⟨(bt s (i : Int)).toNat, by omega⟩
      rw [step_num k s acc i b (by omega) (by omega) hb1 (by omega) ha, refstep q s most acc i b (by omega) (by omega) hb1 (by omega) ha]
      unfold stepR stepQ
      by_cases c1 : (i + 1 = 4 ∧ 128 ≤ b) ∨ (b = 0 ∧ 1 ≤ i)
      · rw [if_pos c1, if_pos c1]; exact ⟨_, rfl, rfl, by simp [okN]⟩
      · rw [if_neg c1, if_neg c1, if_pos (by omega), if_pos (by omega)]
        refine ⟨_, rfl, ?_, by simp [okN]; omega⟩
        unfold fromN
        simp only [Int.toNat_natCast]
        split <;> rfl
  | succ d ih =>
    intro i acc k q hi hs ha hk hq
    obtain ⟨k, rfl⟩ : ∃ m, k = m + 2 := ⟨k - 2, by omega⟩
    obtain ⟨q, rfl⟩ : ∃ m, q = m + 2 := ⟨q - 2, by omega⟩
    by_cases c : i = s.size
    · subst c; exact ⟨_, stop_num (k + 1) s acc, refstop (q + 1) s most acc _, by simp [okN]⟩
    · have hb := bt_lt s i
      obtain ⟨b, hb1⟩ : ∃ b : Nat, bt s (i : Int) = (b : Int) := ⟨(bt s (i : Int)).toNat, by omega⟩
      rw [step_num k s acc i b (by omega) (by omega) hb1 (by omega) ha, refstep q s most acc i b (by omega) (by omega) hb1 (by omega) ha]
      unfold stepR stepQ
      by_cases c1 : (i + 1 = 4 ∧ 128 ≤ b) ∨ (b = 0 ∧ 1 ≤ i)
      · rw [if_pos c1, if_pos c1]; exact ⟨_, rfl, rfl, by simp [okN]⟩
      · rw [if_neg c1, if_neg c1]
        by_cases c2 : b < 128
        · rw [if_pos c2, if_pos c2]
          refine ⟨_, rfl, ?_, by simp [okN]; omega⟩
          unfold fromN
          simp only [Int.toNat_natCast]
          split <;> rfl
        · rw [if_neg c2, if_neg c2]
          have hp : 2 ^ (7 * i) * (b % 128) ≤ 2 ^ (7 * i) * 127 := Nat.mul_le_mul_left _ (by omega)
          have hq2 : 2 ^ (7 * (i + 1)) = 2 ^ (7 * i) * 128 := by rw [show 7 * (i + 1) = 7 * i + 7 by omega, Nat.pow_add]
          exact ih (i + 1) _ k q (by omega) (by omega) (by omega) (by omega) (by omega)
/-- The program's reader and the document's: the same bytes, the same error. -/
def Same (err : Option Int) (E : Int) : Prop := match err with
  | some e => E = e ∧ e ≠ 0
  | none => E = 0
theorem num_same (k : Nat) (s : ByteArray) (err : Option Int) (E most : Int) (h : Same err E) (hk : 12 ≤ k) :
    ∃ n s' err' E', wire_Reader_Num.f k s err most = some (n, s', err') ∧ tontineref1_Reader_Num.f k s E most = some (n, s', E') ∧ Same err' E' := by
  obtain ⟨q, rfl⟩ : ∃ m, k = m + 2 := ⟨k - 2, by omega⟩
  cases err with
  | some e =>
    obtain ⟨rfl, he⟩ := h
    refine ⟨0, s, some E, E, rnum_err _ s most E, ?_, rfl, he⟩
    unfold tontineref1_Reader_Num.f
    simp only [tontineref1_Reader_Num.l0]
    rw [if_neg he]
  | none =>
    have h0 : E = 0 := h
    subst h0
    obtain ⟨⟨n, c, e⟩, h1, h2, h3⟩ := both_l0 s most 3 0 0 (q + 2) (q + 2) (by omega) (by omega) (by omega) (by omega) (by omega)
    rw [show ((0 : Nat) : Int) = 0 from rfl] at h1
    rw [show ((2 ^ (7 * 0) : Nat) : Int) = 1 from rfl, show ((0 : Nat) : Int) = 0 from rfl] at h2
    cases e with
    | some e => exact ⟨0, s, some e, e, rnum_bad q s most n c e h1, h2, rfl, h3⟩
    | none =>
      have h4 := rnum_of q s most n c h1 h3.1 h3.2
      unfold fromN at h2
      simp only [] at h2
      by_cases c1 : n > most
      · rw [if_pos c1] at h4 h2
        exact ⟨0, s, some 12, 12, h4, h2, rfl, by omega⟩
      · rw [if_neg c1] at h4 h2
        exact ⟨n, _, none, 0, h4, h2, rfl⟩
theorem dm (b r : Nat) (h : b < 256) : (b + 256 * r) % 256 = b ∧ (b + 256 * r) / 256 = r := by omega
theorem enc8_of (b0 b1 b2 b3 b4 b5 b6 b7 : Nat) (h0 : b0 < 256) (h1 : b1 < 256) (h2 : b2 < 256) (h3 : b3 < 256) (h4 : b4 < 256) (h5 : b5 < 256) (h6 : b6 < 256) (h7 : b7 < 256) :
    enc8 (b0 + 256 * (b1 + 256 * (b2 + 256 * (b3 + 256 * (b4 + 256 * (b5 + 256 * (b6 + 256 * b7))))))) = [(b0 : Int), (b1 : Int), (b2 : Int), (b3 : Int), (b4 : Int), (b5 : Int), (b6 : Int), (b7 : Int)] := by
  have q1 := fun r => (dm b0 r h0).2
  have q2 := fun r => (dm b1 r h1).2
  have q3 := fun r => (dm b2 r h2).2
  have q4 := fun r => (dm b3 r h3).2
  have q5 := fun r => (dm b4 r h4).2
  have q6 := fun r => (dm b5 r h5).2
  have q7 := fun r => (dm b6 r h6).2
  have d2 : ∀ v : Nat, v / 65536 = v / 256 / 256 := fun v => by rw [Nat.div_div_eq_div_mul]
  have d3 : ∀ v : Nat, v / 16777216 = v / 256 / 256 / 256 := fun v => by rw [Nat.div_div_eq_div_mul, Nat.div_div_eq_div_mul]
  have d4 : ∀ v : Nat, v / 4294967296 = v / 256 / 256 / 256 / 256 := fun v => by rw [Nat.div_div_eq_div_mul, Nat.div_div_eq_div_mul, Nat.div_div_eq_div_mul]
  have d5 : ∀ v : Nat, v / 1099511627776 = v / 256 / 256 / 256 / 256 / 256 := fun v => by rw [Nat.div_div_eq_div_mul, Nat.div_div_eq_div_mul, Nat.div_div_eq_div_mul, Nat.div_div_eq_div_mul]
  have d6 : ∀ v : Nat, v / 281474976710656 = v / 256 / 256 / 256 / 256 / 256 / 256 := fun v => by rw [Nat.div_div_eq_div_mul, Nat.div_div_eq_div_mul, Nat.div_div_eq_div_mul, Nat.div_div_eq_div_mul, Nat.div_div_eq_div_mul]
  have d7 : ∀ v : Nat, v / 72057594037927936 = v / 256 / 256 / 256 / 256 / 256 / 256 / 256 := fun v => by rw [Nat.div_div_eq_div_mul, Nat.div_div_eq_div_mul, Nat.div_div_eq_div_mul, Nat.div_div_eq_div_mul, Nat.div_div_eq_div_mul, Nat.div_div_eq_div_mul]
  unfold enc8
  rw [d2, d3, d4, d5, d6, d7, q1, q2, q3, q4, q5, q6, q7, (dm b0 _ h0).1, (dm b1 _ h1).1, (dm b2 _ h2).1, (dm b3 _ h3).1, (dm b4 _ h4).1, (dm b5 _ h5).1, (dm b6 _ h6).1, Nat.mod_eq_of_lt h7]
theorem split8 (s : ByteArray) (h : 8 ≤ s.size) : ∃ (v : Nat) (l : List Int), s = strOfNums (enc8 v ++ l) ∧ Bytes l ∧ v < 18446744073709551616 := by
  have hB := bts_bytes s
  have hs := of_bts s
  have hl : (bts s).length = s.size := by rw [← size_num, hs]
  match e : bts s with
  | b0 :: b1 :: b2 :: b3 :: b4 :: b5 :: b6 :: b7 :: l =>
    rw [e] at hB hs
    have h0 := hB b0 (by simp)
    have h1 := hB b1 (by simp)
    have h2 := hB b2 (by simp)
    have h3 := hB b3 (by simp)
    have h4 := hB b4 (by simp)
    have h5 := hB b5 (by simp)
    have h6 := hB b6 (by simp)
    have h7 := hB b7 (by simp)
    refine ⟨b0.toNat + 256 * (b1.toNat + 256 * (b2.toNat + 256 * (b3.toNat + 256 * (b4.toNat + 256 * (b5.toNat + 256 * (b6.toNat + 256 * b7.toNat)))))), l, ?_, fun x hx => hB x (by simp [hx]), by omega⟩
    rw [← hs, enc8_of _ _ _ _ _ _ _ _ (by omega) (by omega) (by omega) (by omega) (by omega) (by omega) (by omega) (by omega)]
    congr 1
    simp only [List.cons_append, List.nil_append, List.cons.injEq, and_true]
    clear hB hs hl e
    refine ⟨?_, ?_, ?_, ?_, ?_, ?_, ?_, ?_⟩ <;> exact (fun (x : Int) (h : 0 ≤ x ∧ x < 256) => (by omega : x = (x.toNat : Int))) _ (by assumption)
  | [] | [_] | [_, _] | [_, _, _] | [_, _, _, _] | [_, _, _, _, _] | [_, _, _, _, _, _] | [_, _, _, _, _, _, _] => rw [e] at hl; simp at hl; omega
theorem refbstep (k x b i : Nat) (s : ByteArray) (hi : i < s.size) (hb : bt s (i : Int) = (b : Int)) (hx : x < 72057594037927936) (hb2 : b < 256) (hi8 : i < 8) :
    tontineref1_Reader_Bits.l0 (k + 1) (x : Int) (i : Int) s 0 = tontineref1_Reader_Bits.l0 k ((x * 256 + b : Nat) : Int) ((i : Int) - 1) s 0 := by
  have w1 := predw i (by omega)
  have w2 : IntKind.u64.wrap ((x : Int) * 256) = ((x * 256 : Nat) : Int) := by rw [u64_in (by omega) (by omega)]; omega
  have w3 : IntKind.u64.wrap (b : Int) = (b : Int) := u64_in (by omega) (by omega)
  have d : (i : Int) ≥ 0 := by omega
  have d2 : (i : Int) < (s.size : Int) := by omega
  simp only [tontineref1_Reader_Bits.l0]
  rw [hb, w1, w2, w3, low_u64 x b hb2 hx, if_pos d, if_pos d, if_pos d2]
theorem refbits_take (k v : Nat) (l : List Int) (hv : v < 18446744073709551616) (hb : Bytes l) : tontineref1_Reader_Bits.f (k + 12) (strOfNums (enc8 v ++ l)) 0 = some ((v : Int), strOfNums l, 0) := by
  have hB := bytes_app (bytes_enc8 v) hb
  have hs := size_num (enc8 v ++ l)
  rw [List.length_append, enc8_len] at hs
  have g : ∀ i (h : i < (enc8 v).length), bt (strOfNums (enc8 v ++ l)) (i : Int) = (enc8 v)[i] := fun i h => by
    rw [bt_num _ hB i (by rw [List.length_append]; omega), List.getElem_append_left h]
  have L := enc8_len v
  have hx := ext_num (enc8 v ++ l) 8
  rw [show (enc8 v ++ l).drop 8 = l from rfl] at hx
  generalize strOfNums (enc8 v ++ l) = s at *
  have b0 : bt s ((0 : Nat) : Int) = ((v % 256 : Nat) : Int) := g 0 (by omega)
  have b1 : bt s ((1 : Nat) : Int) = ((v / 256 % 256 : Nat) : Int) := g 1 (by omega)
  have b2 : bt s ((2 : Nat) : Int) = ((v / 65536 % 256 : Nat) : Int) := g 2 (by omega)
  have b3 : bt s ((3 : Nat) : Int) = ((v / 16777216 % 256 : Nat) : Int) := g 3 (by omega)
  have b4 : bt s ((4 : Nat) : Int) = ((v / 4294967296 % 256 : Nat) : Int) := g 4 (by omega)
  have b5 : bt s ((5 : Nat) : Int) = ((v / 1099511627776 % 256 : Nat) : Int) := g 5 (by omega)
  have b6 : bt s ((6 : Nat) : Int) = ((v / 281474976710656 % 256 : Nat) : Int) := g 6 (by omega)
  have b7 : bt s ((7 : Nat) : Int) = ((v / 72057594037927936 % 256 : Nat) : Int) := g 7 (by omega)
  have n : ∀ i : Nat, ((i + 1 : Nat) : Int) - 1 = (i : Int) := fun i => by omega
  unfold tontineref1_Reader_Bits.f
  rw [if_pos rfl, show k + 12 = k + 10 + 1 + 1 from rfl]
  simp only [tontineref1_Reader_Bits.j0, tontineref1_Reader_Bits.j1]
  rw [if_neg (by rw [decide_eq_true_eq]; omega), if_pos trivial]
  have s7 := refbstep (k + 9) 0 _ 7 s (by omega) b7 (by omega) (by omega) (by omega)
  have s6 := refbstep (k + 8) (0 * 256 + v / 72057594037927936 % 256) _ 6 s (by omega) b6 (by omega) (by omega) (by omega)
  have s5 := refbstep (k + 7) ((0 * 256 + v / 72057594037927936 % 256) * 256 + v / 281474976710656 % 256) _ 5 s (by omega) b5 (by omega) (by omega) (by omega)
  have s4 := refbstep (k + 6) (((0 * 256 + v / 72057594037927936 % 256) * 256 + v / 281474976710656 % 256) * 256 + v / 1099511627776 % 256) _ 4 s (by omega) b4 (by omega) (by omega) (by omega)
  have s3 := refbstep (k + 5) ((((0 * 256 + v / 72057594037927936 % 256) * 256 + v / 281474976710656 % 256) * 256 + v / 1099511627776 % 256) * 256 + v / 4294967296 % 256) _ 3 s (by omega) b3 (by omega) (by omega) (by omega)
  have s2 := refbstep (k + 4) (((((0 * 256 + v / 72057594037927936 % 256) * 256 + v / 281474976710656 % 256) * 256 + v / 1099511627776 % 256) * 256 + v / 4294967296 % 256) * 256 + v / 16777216 % 256) _ 2 s (by omega) b2 (by omega) (by omega) (by omega)
  have s1 := refbstep (k + 3) ((((((0 * 256 + v / 72057594037927936 % 256) * 256 + v / 281474976710656 % 256) * 256 + v / 1099511627776 % 256) * 256 + v / 4294967296 % 256) * 256 + v / 16777216 % 256) * 256 + v / 65536 % 256) _ 1 s (by omega) b1 (by omega) (by omega) (by omega)
  have s0 := refbstep (k + 2) (((((((0 * 256 + v / 72057594037927936 % 256) * 256 + v / 281474976710656 % 256) * 256 + v / 1099511627776 % 256) * 256 + v / 4294967296 % 256) * 256 + v / 16777216 % 256) * 256 + v / 65536 % 256) * 256 + v / 256 % 256) _ 0 s (by omega) b0 (by omega) (by omega) (by omega)
  rw [show ((0 : Nat) : Int) = 0 from rfl, show ((7 : Nat) : Int) = 7 from rfl] at s7
  rw [show k + 10 = k + 9 + 1 from rfl, s7, show (7 : Int) - 1 = ((6 : Nat) : Int) from rfl, s6, n 5, s5, n 4, s4, n 3, s3, n 2, s2, n 1, s1, n 0, s0]
  simp only [tontineref1_Reader_Bits.l0]
  rw [if_neg (by omega), if_pos (by omega), hx]
  congr 2
  omega
theorem bits_same (k : Nat) (s : ByteArray) (err : Option Int) (E : Int) (h : Same err E) (hk : 14 ≤ k) :
    ∃ n s' err' E', wire_Reader_Bits.f k s err = some (n, s', err') ∧ tontineref1_Reader_Bits.f k s E = some (n, s', E') ∧ Same err' E' := by
  obtain ⟨q, rfl⟩ : ∃ m, k = m + 12 := ⟨k - 12, by omega⟩
  cases err with
  | some e =>
    obtain ⟨rfl, he⟩ := h
    refine ⟨0, s, some E, E, rbits_err (q + 10) s E, ?_, rfl, he⟩
    unfold tontineref1_Reader_Bits.f
    rw [if_neg he, show q + 12 = q + 10 + 1 + 1 from rfl]
    simp only [tontineref1_Reader_Bits.j0, tontineref1_Reader_Bits.j1]
    rw [if_neg (by simp), if_neg he]
  | none =>
    have h0 : E = 0 := h
    subst h0
    by_cases c : s.size < 8
    · refine ⟨0, s, some 11, 11, rbits_short (q + 10) s c, ?_, rfl, by omega⟩
      unfold tontineref1_Reader_Bits.f
      rw [if_pos rfl, show q + 12 = q + 10 + 1 + 1 from rfl, show decide ((s.size : Int) < 8) = true from decide_eq_true (by omega)]
      simp only [tontineref1_Reader_Bits.j0, tontineref1_Reader_Bits.j1]
      rw [if_pos trivial]
      simp [tontineref1_Reader_fails.f]
    · obtain ⟨v, l, rfl, hB, hv⟩ := split8 s (by omega)
      exact ⟨v, strOfNums l, none, 0, rbits_f (q + 1) v l hv hB, refbits_take q v l hv hB, rfl⟩
end Go.Proofs.YtiejhnijfgdapaaDoor.WireT
