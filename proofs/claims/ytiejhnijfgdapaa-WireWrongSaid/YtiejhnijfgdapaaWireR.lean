/- What the writer and the reader of numbers and sets do, in plain words: the bytes of a number, of a set; what is taken of bytes. -/
import Derived.Test.YtiejhnijfgdapaaErrIs
import Derived.Test.YtiejhnijfgdapaaPx1
import Derived.Test.YtiejhnijfgdapaaPx2
import Derived.Test.YtiejhnijfgdapaaPx3
import Derived.Test.YtiejhnijfgdapaaPx4
import Derived.Test.YtiejhnijfgdapaaPx5
import Derived.Test.YtiejhnijfgdapaaRd
import Derived.Laws.Bits64b
namespace Go.Proofs.Ytiejhnijfgdapaa.WireR
open Go Go.RowKit Go.Proofs.Ytiejhnijfgdapaa Go.Proofs.Ytiejhnijfgdapaa.P Go.Proofs.YtiejhnijfgdapaaW.PrintWords Go.Proofs.YtiejhnijfgdapaaW.PrintLast Go.Proofs.YtiejhnijfgdapaaW.PrintMore

theorem bind_some' {α β : Type} (a : α) (f : α → Option β) : (some a).bind f = f a := by simp
theorem wrap_in {n : Int} (h0 : -9223372036854775808 ≤ n) (h1 : n ≤ 9223372036854775807) : wrap64 n = n := by
  unfold wrap64; omega
theorem i64_in {n : Int} (h0 : -9223372036854775808 ≤ n) (h1 : n ≤ 9223372036854775807) : IntKind.i64.wrap n = n := by
  rw [i64_w, wrap_in h0 h1]
theorem u64_in {n : Int} (h0 : 0 ≤ n) (h1 : n < 18446744073709551616) : IntKind.u64.wrap n = n := by
  rw [IntKind.wrap_u64]; omega
theorem ofInt_nat (a : Nat) (ha : a < 18446744073709551616) : (BitVec.ofInt 64 (a : Int)).toNat = a := by
  rw [BitVec.ofInt_natCast, BitVec.toNat_ofNat]; exact Nat.mod_eq_of_lt (by omega)
theorem and_i64 (a b : Nat) (ha : a < 9223372036854775808) (hb : b < 9223372036854775808) : bits .and .i64 (a : Int) (b : Int) = ((a &&& b : Nat) : Int) := by
  have hx : a &&& b < 2 ^ 63 := Nat.and_lt_two_pow _ (by omega)
  show IntKind.i64.wrap ((BitVec.ofInt 64 (a : Int) &&& BitVec.ofInt 64 (b : Int)).toNat : Int) = _
  rw [BitVec.toNat_and, ofInt_nat a (by omega), ofInt_nat b (by omega), i64_in (by omega) (by omega)]
theorem or_i64 (a b : Nat) (ha : a < 9223372036854775808) (hb : b < 9223372036854775808) : bits .or .i64 (a : Int) (b : Int) = ((a ||| b : Nat) : Int) := by
  have hx : a ||| b < 2 ^ 63 := Nat.or_lt_two_pow (by omega) (by omega)
  show IntKind.i64.wrap ((BitVec.ofInt 64 (a : Int) ||| BitVec.ofInt 64 (b : Int)).toNat : Int) = _
  rw [BitVec.toNat_or, ofInt_nat a (by omega), ofInt_nat b (by omega), i64_in (by omega) (by omega)]
/-- The low seven bits. -/
theorem low7 (m : Nat) (h : m < 9223372036854775808) : bits .and .i64 (m : Int) 127 = ((m % 128 : Nat) : Int) := by
  have e := Nat.and_two_pow_sub_one_eq_mod m 7
  have := and_i64 m 127 h (by omega)
  rw [show ((127 : Nat) : Int) = 127 from rfl] at this
  rw [this]; congr 1
theorem more7 (r : Nat) (h : r < 128) : bits .or .i64 128 (r : Int) = ((128 + r : Nat) : Int) := by
  have e := Nat.two_pow_add_eq_or_of_lt (i := 7) (b := r) h 1
  rw [show 2 ^ 7 * 1 = 128 from rfl] at e
  have := or_i64 128 r (by omega) (by omega)
  rw [show ((128 : Nat) : Int) = 128 from rfl] at this
  rw [this]; congr 1; omega
/-- Bits laid above others. -/
theorem above_i64 (i a b : Nat) (ha : a < 2 ^ i) (hb : 2 ^ i * b < 9223372036854775808) (h2 : 2 ^ i ≤ 9223372036854775808) : bits .or .i64 (a : Int) ((b : Int) * ((2 ^ i : Nat) : Int)) = ((a + 2 ^ i * b : Nat) : Int) := by
  have e := Nat.two_pow_add_eq_or_of_lt ha b
  rw [show (b : Int) * ((2 ^ i : Nat) : Int) = ((2 ^ i * b : Nat) : Int) by rw [Nat.mul_comm]; simp, or_i64 a _ (by omega) hb, Nat.or_comm, ← e, Nat.add_comm]
theorem above_u64 (i a b : Nat) (ha : a < 2 ^ i) (hb : 2 ^ i * b < 18446744073709551616) (h2 : 2 ^ i ≤ 18446744073709551616) : bits .or .u64 (a : Int) ((b : Int) * ((2 ^ i : Nat) : Int)) = ((a + 2 ^ i * b : Nat) : Int) := by
  have e := Nat.two_pow_add_eq_or_of_lt ha b
  rw [show (b : Int) * ((2 ^ i : Nat) : Int) = ((2 ^ i * b : Nat) : Int) by rw [Nat.mul_comm]; simp, bits_or_u64_nat a _ (by omega) hb, Nat.or_comm, ← e, Nat.add_comm]

/-- The bytes of a number that was made greater by one. -/
def encN (m : Nat) : List Int := if m < 128 then [(m : Int)] else if m < 16384 then [((128 + m % 128 : Nat) : Int), ((m / 128 : Nat) : Int)] else [((128 + m % 128 : Nat) : Int), ((128 + m / 128 % 128 : Nat) : Int), ((m / 16384 : Nat) : Int)]
/-- The bytes of a set. -/
def enc8 (v : Nat) : List Int := [((v % 256 : Nat) : Int), ((v / 256 % 256 : Nat) : Int), ((v / 65536 % 256 : Nat) : Int), ((v / 16777216 % 256 : Nat) : Int), ((v / 4294967296 % 256 : Nat) : Int), ((v / 1099511627776 % 256 : Nat) : Int), ((v / 281474976710656 % 256 : Nat) : Int), ((v / 72057594037927936 % 256 : Nat) : Int)]
def Bytes (l : List Int) : Prop := ∀ x ∈ l, 0 ≤ x ∧ x < 256
theorem bytes_app {l m : List Int} (h : Bytes l) (g : Bytes m) : Bytes (l ++ m) := fun x hx => (List.mem_append.mp hx).elim (h x) (g x)
theorem bytes_encN (m : Nat) (h : m < 2097152) : Bytes (encN m) := by
  intro x hx
  unfold encN at hx
  split at hx
  · simp at hx; omega
  · split at hx <;> (simp at hx; omega)
theorem bytes_enc8 (v : Nat) : Bytes (enc8 v) := by
  intro x hx
  simp [enc8] at hx
  omega
theorem encN_len (m : Nat) : (encN m).length = if m < 128 then 1 else if m < 16384 then 2 else 3 := by
  unfold encN; split
  · rfl
  · split <;> rfl
theorem enc8_len (v : Nat) : (enc8 v).length = 8 := rfl

theorem wnum_l0 (k m : Nat) (l : List Int) (hm : m < 2097152) (hl : l.length < 140737488350000) : wire_Writer_Num.l0 (k + 3) (m : Int) l = some (l ++ encN m) := by
  have e1 : ∀ j : Nat, j < 2097152 → bits .or .i64 128 (bits .and .i64 (j : Int) 127) % 256 = ((128 + j % 128 : Nat) : Int) := by
    intro j hj; rw [low7 j (by omega), more7 _ (by omega)]; omega
  have e0 := e1 m hm
  have e2 := e1 (m / 128) (by omega)
  have d1 : (m : Int) / 128 = ((m / 128 : Nat) : Int) := by omega
  have d2 : ((m / 128 : Nat) : Int) / 128 = ((m / 16384 : Nat) : Int) := by omega
  unfold encN
  rw [show k + 3 = (k + 2) + 1 from rfl, wire_Writer_Num.l0]
  rw [if_pos (show l.length < 140737488355328 by omega), if_pos (show l.length < 140737488355328 by omega)]
  by_cases c1 : m < 128
  · rw [if_neg (by omega), if_pos c1]
    congr 3; omega
  · rw [if_pos (by omega), if_neg c1, e0, d1, wire_Writer_Num.l0]
    have L1 : (l ++ [((128 + m % 128 : Nat) : Int)]).length < 140737488355328 := by rw [List.length_append]; simp; omega
    rw [if_pos L1, if_pos L1]
    by_cases c2 : m < 16384
    · rw [if_neg (by omega), if_pos c2, List.append_assoc]
      congr 4; simp; omega
    · rw [if_pos (by omega), if_neg c2, e2, d2, wire_Writer_Num.l0]
      have L2 : (l ++ [((128 + m % 128 : Nat) : Int)] ++ [((128 + m / 128 % 128 : Nat) : Int)]).length < 140737488355328 := by rw [List.length_append, List.length_append]; simp; omega
      rw [if_neg (by omega), if_pos L2, List.append_assoc, List.append_assoc]
      congr 5; simp; omega
/-- A number is written. -/
theorem wnum_f (k m : Nat) (l : List Int) (n : Int) (hn : n = (m : Int) - 1) (hm : m ≤ 1048577) (hl : l.length < 140737488350000) : wire_Writer_Num.f (k + 3) l n = some (l ++ encN m) := by
  unfold wire_Writer_Num.f
  have e : mn (mx n (-1)) 1048576 + 1 = (m : Int) := by
    unfold mn mx; split <;> split <;> omega
  rw [e]; exact wnum_l0 k m l (by omega) hl
/-- A set is written. -/
theorem wbits_f (k v : Nat) (l : List Int) (hl : l.length < 140737488350000) : wire_Writer_Bits.f (k + 9) l (v : Int) = some (l ++ enc8 v) := by
  unfold wire_Writer_Bits.f
  have w0 : wrap64 (0 + 1) = 1 := by decide +kernel
  have w1 : wrap64 (1 + 1) = 2 := by decide +kernel
  have w2 : wrap64 (2 + 1) = 3 := by decide +kernel
  have w3 : wrap64 (3 + 1) = 4 := by decide +kernel
  have w4 : wrap64 (4 + 1) = 5 := by decide +kernel
  have w5 : wrap64 (5 + 1) = 6 := by decide +kernel
  have w6 : wrap64 (6 + 1) = 7 := by decide +kernel
  have w7 : wrap64 (7 + 1) = 8 := by decide +kernel
  simp only [wire_Writer_Bits.l0]
  rw [w0, w1, w2, w3, w4, w5, w6, w7]
  rw [if_pos (by omega), if_pos (by (try simp); omega), if_pos (by omega), if_pos (by (try simp); omega), if_pos (by omega), if_pos (by (try simp); omega), if_pos (by omega), if_pos (by (try simp); omega), if_pos (by omega), if_pos (by (try simp); omega), if_pos (by omega), if_pos (by (try simp); omega), if_pos (by omega), if_pos (by (try simp); omega), if_pos (by omega), if_pos (by (try simp); omega), if_neg (by omega)]
  simp only [List.append_assoc, enc8, List.cons_append, List.nil_append]
  congr 2
  simp only [List.cons.injEq, and_true]
  refine ⟨?_, ?_, ?_, ?_, ?_, ?_, ?_, ?_⟩ <;> omega

/-! ## Reading -/
theorem size_num (l : List Int) : (strOfNums l).size = l.length := strOfNums_size l
theorem bt_num (l : List Int) (hb : Bytes l) (i : Nat) (h : i < l.length) : bt (strOfNums l) (i : Int) = l[i] := by
  have hx := hb l[i] (List.getElem_mem h)
  unfold bt
  rw [dif_pos (by rw [size_num]; omega)]
  have : (strOfNums l)[(i : Int).toNat]'(by rw [size_num]; omega) = UInt8.ofNat (l[i]).toNat := by
    show (strOfNums l).data[(i : Int).toNat]'_ = _
    simp [strOfNums]
  rw [this]
  simp
  omega
theorem ext_num (l : List Int) (c : Nat) : (strOfNums l).extract c (strOfNums l).size = strOfNums (l.drop c) := by
  apply ByteArray.ext
  rw [ByteArray.data_extract, size_num]
  apply Array.toList_inj.mp
  simp [strOfNums, List.map_drop]
  rw [List.take_of_length_le (by simp)]

def stepR (k : Nat) (s : ByteArray) (acc i b : Nat) : Option (Int × Int × Option Int) :=
  if (i + 1 = 4 ∧ 128 ≤ b) ∨ (b = 0 ∧ 1 ≤ i) then some (0, 0, some 10) else if b < 128 then some (((acc + 2 ^ (7 * i) * (b % 128) : Nat) : Int) - 1, ((i + 1 : Nat) : Int), none) else wire_number.l0 k s ((acc + 2 ^ (7 * i) * (b % 128) : Nat) : Int) ((i + 1 : Nat) : Int)
theorem step_num (k : Nat) (s : ByteArray) (acc i b : Nat) (hi : i < s.size) (hi4 : i < 4) (hb : bt s (i : Int) = (b : Int)) (hb2 : b < 256) (ha : acc < 2 ^ (7 * i)) :
    wire_number.l0 (k + 2) s (acc : Int) (i : Int) = stepR k s acc i b := by
  have p4 : 2 ^ (7 * i) ≤ 2097152 := by
    have : 2 ^ (7 * i) ≤ 2 ^ 21 := Nat.pow_le_pow_right (by omega) (by omega)
    omega
  have pb : 2 ^ (7 * i) * (b % 128) ≤ 2097152 * 127 := Nat.mul_le_mul p4 (by omega)
  have w1 : wrap64 (7 * (i : Int)) = ((7 * i : Nat) : Int) := by rw [wrap_in (by omega) (by omega)]; omega
  have w2 : wrap64 ((i : Int) + 1) = ((i + 1 : Nat) : Int) := by rw [wrap_in (by omega) (by omega)]; omega
  have w3 : wrap64 (b : Int) = (b : Int) := wrap_in (by omega) (by omega)
  have sh : shl .i64 ((b % 128 : Nat) : Int) ((7 * i : Nat) : Int) = ((b % 128 : Nat) : Int) * ((2 ^ (7 * i) : Nat) : Int) := by
    unfold shl
    rw [Int.toNat_natCast, show min (7 * i) IntKind.i64.bits = 7 * i by show min (7 * i) 64 = _; omega]
    rw [show ((b % 128 : Nat) : Int) * 2 ^ (7 * i) = ((2 ^ (7 * i) * (b % 128) : Nat) : Int) by push_cast; exact Int.mul_comm _ _]
    rw [i64_in (by omega) (by omega)]; push_cast; exact Int.mul_comm _ _
  have ab := above_i64 (7 * i) acc (b % 128) ha (by omega) (by omega)
  have wl : ∀ x : Nat, x ≤ 1000000000 → wrap64 ((x : Int) - 1) = (x : Int) - 1 := fun x hx => wrap_in (by omega) (by omega)
  have w4 := wl (acc + 2 ^ (7 * i) * (b % 128)) (by omega)
  rw [show k + 2 = (k + 1) + 1 from rfl]
  simp only [wire_number.l0]
  rw [w1, w2, hb, w3, low7 b (by omega), sh, ab]
  unfold stepR
  clear w1 w2 w3 sh ab wl hb p4 pb ha
  rw [if_neg (by omega), if_pos (by omega), if_pos (by omega), if_pos (by omega)]
  by_cases c1 : i + 1 = 4
  · rw [if_pos (by omega)]
    by_cases c2 : b < 128
    · rw [if_pos (by omega)]
      by_cases c3 : b = 0
      · rw [if_pos (by omega), if_pos (by omega)]
        simp only [wire_number.j1]
        rw [if_pos (decide_eq_true (by omega))]
      · rw [if_neg (by omega), if_neg (by omega), if_pos c2]
        simp only [wire_number.j1]
        rw [if_neg (by simp), if_pos (decide_eq_true (by omega)), w4]
    · rw [if_neg (by omega), if_pos (by omega)]
      simp only [wire_number.j1]
      rw [if_pos trivial]
  · rw [if_neg (by omega)]
    by_cases c2 : b < 128
    · rw [if_pos (by omega)]
      by_cases c3 : b = 0
      · rw [if_pos (by omega)]
        simp only [wire_number.j1]
        by_cases c4 : 1 ≤ i
        · rw [if_pos (decide_eq_true (by omega)), if_pos (by omega)]
        · rw [if_neg (by rw [decide_eq_true_eq]; omega), if_pos (decide_eq_true (by omega)), if_neg (by omega), if_pos c2, w4]
      · rw [if_neg (by omega), if_neg (by omega), if_pos c2]
        simp only [wire_number.j1]
        rw [if_neg (by simp), if_pos (decide_eq_true (by omega)), w4]
    · rw [if_neg (by omega), if_neg (by omega), if_neg c2]
      simp only [wire_number.j1]
      rw [if_neg (by simp), if_neg (by rw [decide_eq_true_eq]; omega)]
theorem stop_num (k : Nat) (s : ByteArray) (acc : Int) : wire_number.l0 (k + 1) s acc (s.size : Int) = some (0, 0, some 11) := by
  simp only [wire_number.l0]; rw [if_pos trivial]

/-- The number in front. -/
theorem number_f (k m : Nat) (l : List Int) (hm : m < 2097152) (hb : Bytes l) : wire_number.f (k + 8) (strOfNums (encN m ++ l)) = some ((m : Int) - 1, ((encN m).length : Int), none) := by
  have hB := bytes_app (bytes_encN m hm) hb
  have hs := size_num (encN m ++ l)
  rw [List.length_append] at hs
  have hL := encN_len m
  unfold wire_number.f
  have g : ∀ i (h : i < (encN m).length), bt (strOfNums (encN m ++ l)) (i : Int) = (encN m)[i] := fun i h => by
    rw [bt_num _ hB i (by rw [List.length_append]; omega), List.getElem_append_left h]
  by_cases c1 : m < 128
  · rw [if_pos c1] at hL
    have b0 := g 0 (by omega)
    have e0 : (encN m)[0]'(by omega) = (m : Int) := by simp [encN, c1]
    rw [e0] at b0
    have s0 := step_num (k + 6) (strOfNums (encN m ++ l)) 0 0 m (by omega) (by omega) b0 (by omega) (by omega)
    rw [show ((0 : Nat) : Int) = 0 from rfl] at s0
    rw [show k + 8 = k + 6 + 2 from rfl, s0, stepR, if_neg (by omega), if_pos c1, hL]
    simp; omega
  · rw [if_neg c1] at hL
    by_cases c2 : m < 16384
    · rw [if_pos c2] at hL
      have b0 := g 0 (by omega)
      have b1 := g 1 (by omega)
      have e0 : (encN m)[0]'(by omega) = ((128 + m % 128 : Nat) : Int) := by simp [encN, c1, c2]
      have e1 : (encN m)[1]'(by omega) = ((m / 128 : Nat) : Int) := by simp [encN, c1, c2]
      rw [e0] at b0
      rw [e1] at b1
      have s0 := step_num (k + 6) (strOfNums (encN m ++ l)) 0 0 (128 + m % 128) (by omega) (by omega) b0 (by omega) (by omega)
      rw [show ((0 : Nat) : Int) = 0 from rfl] at s0
      have s1 := step_num (k + 4) (strOfNums (encN m ++ l)) (0 + 2 ^ (7 * 0) * ((128 + m % 128) % 128)) 1 (m / 128) (by omega) (by omega) b1 (by omega) (by omega)
      rw [show k + 8 = k + 6 + 2 from rfl, s0, stepR, if_neg (by omega), if_neg (by omega), show 0 + 1 = 1 from rfl, show k + 6 = k + 4 + 2 from rfl, s1, stepR, if_neg (by omega), if_pos (by omega), hL]
      congr 2; omega
    · rw [if_neg c2] at hL
      have b0 := g 0 (by omega)
      have b1 := g 1 (by omega)
      have b2 := g 2 (by omega)
      have e0 : (encN m)[0]'(by omega) = ((128 + m % 128 : Nat) : Int) := by simp [encN, c1, c2]
      have e1 : (encN m)[1]'(by omega) = ((128 + m / 128 % 128 : Nat) : Int) := by simp [encN, c1, c2]
      have e2 : (encN m)[2]'(by omega) = ((m / 16384 : Nat) : Int) := by simp [encN, c1, c2]
      rw [e0] at b0
      rw [e1] at b1
      rw [e2] at b2
      have s0 := step_num (k + 6) (strOfNums (encN m ++ l)) 0 0 (128 + m % 128) (by omega) (by omega) b0 (by omega) (by omega)
      rw [show ((0 : Nat) : Int) = 0 from rfl] at s0
      have s1 := step_num (k + 4) (strOfNums (encN m ++ l)) (0 + 2 ^ (7 * 0) * ((128 + m % 128) % 128)) 1 (128 + m / 128 % 128) (by omega) (by omega) b1 (by omega) (by omega)
      have s2 := step_num (k + 2) (strOfNums (encN m ++ l)) (0 + 2 ^ (7 * 0) * ((128 + m % 128) % 128) + 2 ^ (7 * 1) * ((128 + m / 128 % 128) % 128)) 2 (m / 16384) (by omega) (by omega) b2 (by omega) (by omega)
      rw [show k + 8 = k + 6 + 2 from rfl, s0, stepR, if_neg (by omega), if_neg (by omega), show 0 + 1 = 1 from rfl, show k + 6 = k + 4 + 2 from rfl, s1, stepR, if_neg (by omega), if_neg (by omega), show 1 + 1 = 2 from rfl, show k + 4 = k + 2 + 2 from rfl, s2, stepR, if_neg (by omega), if_pos (by omega), hL]
      congr 2; omega
/-- What the reader does with what stands in front. -/
theorem rnum_of (k : Nat) (s : ByteArray) (most n c : Int) (h : wire_number.f (k + 2) s = some (n, c, none)) (h0 : 0 ≤ c) (h1 : c ≤ (s.size : Int)) :
    wire_Reader_Num.f (k + 2) s none most = if n > most then some (0, s, some 12) else some (n, s.extract c.toNat s.size, none) := by
  unfold wire_Reader_Num.f
  rw [if_pos (show (none : Option Int).isNone = true from rfl), h, bind_some', if_pos (show (none : Option Int).isNone = true from rfl)]
  by_cases c1 : n > most
  · rw [if_pos c1]
    simp only [wire_Reader_Num.j0, wire_Reader_Num.j1]
    rw [if_pos (decide_eq_true c1)]
    rfl
  · rw [if_neg c1]
    simp only [wire_Reader_Num.j0, wire_Reader_Num.j1]
    rw [if_neg (by rw [decide_eq_true_eq]; exact c1), if_pos (show (none : Option Int).isNone = true from rfl), if_pos h0, if_pos h1]
theorem rnum_bad (k : Nat) (s : ByteArray) (most n c e : Int) (h : wire_number.f (k + 2) s = some (n, c, some e)) :
    wire_Reader_Num.f (k + 2) s none most = some (0, s, some e) := by
  unfold wire_Reader_Num.f
  rw [if_pos (show (none : Option Int).isNone = true from rfl), h, bind_some', if_neg (by simp)]
  simp only [wire_Reader_Num.j0, wire_Reader_Num.j1]
  rw [if_neg (by simp), if_neg (by simp)]
  rfl
theorem rnum_err (k : Nat) (s : ByteArray) (most e : Int) : wire_Reader_Num.f k s (some e) most = some (0, s, some e) := by
  unfold wire_Reader_Num.f
  rw [if_neg (by simp)]
  rfl
/-- A number is taken. -/
theorem rnum_f (k m : Nat) (l : List Int) (most : Int) (hm : m < 2097152) (hb : Bytes l) : wire_Reader_Num.f (k + 8) (strOfNums (encN m ++ l)) none most = if (m : Int) - 1 > most then some (0, strOfNums (encN m ++ l), some 12) else some ((m : Int) - 1, strOfNums l, none) := by
  have h := number_f k m l hm hb
  have hs := size_num (encN m ++ l)
  rw [List.length_append] at hs
  rw [rnum_of (k + 6) _ most _ _ h (by omega) (by omega), Int.toNat_natCast, ext_num, List.drop_left]
/-- A set is taken. -/
theorem rbits_step (k acc b i : Nat) (s : ByteArray) (e : Option Int) (hi : i < s.size) (h8 : i < 8) (hb : bt s (i : Int) = (b : Int)) (hb2 : b < 256) (ha : acc < 2 ^ (8 * i)) :
    wire_Reader_Bits.l0 (k + 1) (acc : Int) (i : Int) s e = wire_Reader_Bits.l0 k ((acc + 2 ^ (8 * i) * b : Nat) : Int) ((i + 1 : Nat) : Int) s e := by
  have p : 2 ^ (8 * i) ≤ 72057594037927936 := by
    have : 2 ^ (8 * i) ≤ 2 ^ 56 := Nat.pow_le_pow_right (by omega) (by omega)
    omega
  have pb : 2 ^ (8 * i) * b ≤ 72057594037927936 * 255 := Nat.mul_le_mul p (by omega)
  have w1 : wrap64 (8 * (i : Int)) = ((8 * i : Nat) : Int) := by rw [wrap_in (by omega) (by omega)]; omega
  have w2 : wrap64 ((i : Int) + 1) = ((i + 1 : Nat) : Int) := by rw [wrap_in (by omega) (by omega)]; omega
  have sh : shl .u64 (b : Int) ((8 * i : Nat) : Int) = (b : Int) * ((2 ^ (8 * i) : Nat) : Int) := by
    unfold shl
    rw [Int.toNat_natCast, show min (8 * i) IntKind.u64.bits = 8 * i by show min (8 * i) 64 = _; omega]
    rw [show (b : Int) * 2 ^ (8 * i) = ((2 ^ (8 * i) * b : Nat) : Int) by push_cast; exact Int.mul_comm _ _]
    rw [u64_in (by omega) (by omega)]; push_cast; exact Int.mul_comm _ _
  have ab := above_u64 (8 * i) acc b ha (by omega) (by omega)
  have w0 : IntKind.u64.wrap (b : Int) = (b : Int) := u64_in (by omega) (by omega)
  simp only [wire_Reader_Bits.l0]
  rw [w1, w2, hb, w0, sh, ab, if_pos (by omega), if_pos (by omega), if_pos (by omega), if_pos (by omega)]
theorem rbits_f (k v : Nat) (l : List Int) (hv : v < 18446744073709551616) (hb : Bytes l) : wire_Reader_Bits.f (k + 11) (strOfNums (enc8 v ++ l)) none = some ((v : Int), strOfNums l, none) := by
  have hB := bytes_app (bytes_enc8 v) hb
  have hs := size_num (enc8 v ++ l)
  rw [List.length_append, enc8_len] at hs
  have g : ∀ i (h : i < (enc8 v).length), bt (strOfNums (enc8 v ++ l)) (i : Int) = (enc8 v)[i] := fun i h => by
    rw [bt_num _ hB i (by rw [List.length_append]; omega), List.getElem_append_left h]
  have L := enc8_len v
  have hx := ext_num (enc8 v ++ l) 8
  rw [show (enc8 v ++ l).drop 8 = l from rfl] at hx
  generalize strOfNums (enc8 v ++ l) = s at *
  have b0 : bt s ((0 : Nat) : Int) = _ := g 0 (by omega)
  have b1 : bt s ((1 : Nat) : Int) = _ := g 1 (by omega)
  have b2 : bt s ((2 : Nat) : Int) = _ := g 2 (by omega)
  have b3 : bt s ((3 : Nat) : Int) = _ := g 3 (by omega)
  have b4 : bt s ((4 : Nat) : Int) = _ := g 4 (by omega)
  have b5 : bt s ((5 : Nat) : Int) = _ := g 5 (by omega)
  have b6 : bt s ((6 : Nat) : Int) = _ := g 6 (by omega)
  have b7 : bt s ((7 : Nat) : Int) = _ := g 7 (by omega)
  unfold wire_Reader_Bits.f
  rw [if_pos (show (none : Option Int).isNone = true from rfl), show k + 11 = k + 9 + 1 + 1 from rfl]
  simp only [wire_Reader_Bits.j0, wire_Reader_Bits.j1]
  rw [if_neg (by rw [decide_eq_true_eq]; omega), if_pos (show (none : Option Int).isNone = true from rfl)]
  have s0 := rbits_step (k + 8) 0 _ 0 s none (by omega) (by omega) b0 (by omega) (by omega)
  have s1 := rbits_step (k + 7) _ _ 1 s none (by omega) (by omega) b1 (by omega) (show (0 + 2 ^ (8 * 0) * (v % 256)) < 2 ^ (8 * 1) by omega)
  have s2 := rbits_step (k + 6) _ _ 2 s none (by omega) (by omega) b2 (by omega) (show (0 + 2 ^ (8 * 0) * (v % 256) + 2 ^ (8 * 1) * (v / 256 % 256)) < 2 ^ (8 * 2) by omega)
  have s3 := rbits_step (k + 5) _ _ 3 s none (by omega) (by omega) b3 (by omega) (show (0 + 2 ^ (8 * 0) * (v % 256) + 2 ^ (8 * 1) * (v / 256 % 256) + 2 ^ (8 * 2) * (v / 65536 % 256)) < 2 ^ (8 * 3) by omega)
  have s4 := rbits_step (k + 4) _ _ 4 s none (by omega) (by omega) b4 (by omega) (show (0 + 2 ^ (8 * 0) * (v % 256) + 2 ^ (8 * 1) * (v / 256 % 256) + 2 ^ (8 * 2) * (v / 65536 % 256) + 2 ^ (8 * 3) * (v / 16777216 % 256)) < 2 ^ (8 * 4) by omega)
  have s5 := rbits_step (k + 3) _ _ 5 s none (by omega) (by omega) b5 (by omega) (show (0 + 2 ^ (8 * 0) * (v % 256) + 2 ^ (8 * 1) * (v / 256 % 256) + 2 ^ (8 * 2) * (v / 65536 % 256) + 2 ^ (8 * 3) * (v / 16777216 % 256) + 2 ^ (8 * 4) * (v / 4294967296 % 256)) < 2 ^ (8 * 5) by omega)
  have s6 := rbits_step (k + 2) _ _ 6 s none (by omega) (by omega) b6 (by omega) (show (0 + 2 ^ (8 * 0) * (v % 256) + 2 ^ (8 * 1) * (v / 256 % 256) + 2 ^ (8 * 2) * (v / 65536 % 256) + 2 ^ (8 * 3) * (v / 16777216 % 256) + 2 ^ (8 * 4) * (v / 4294967296 % 256) + 2 ^ (8 * 5) * (v / 1099511627776 % 256)) < 2 ^ (8 * 6) by omega)
  have s7 := rbits_step (k + 1) _ _ 7 s none (by omega) (by omega) b7 (by omega) (show (0 + 2 ^ (8 * 0) * (v % 256) + 2 ^ (8 * 1) * (v / 256 % 256) + 2 ^ (8 * 2) * (v / 65536 % 256) + 2 ^ (8 * 3) * (v / 16777216 % 256) + 2 ^ (8 * 4) * (v / 4294967296 % 256) + 2 ^ (8 * 5) * (v / 1099511627776 % 256) + 2 ^ (8 * 6) * (v / 281474976710656 % 256)) < 2 ^ (8 * 7) by omega)
  rw [show ((0 : Nat) : Int) = 0 from rfl] at s0
  rw [show k + 9 = k + 8 + 1 from rfl, s0, s1, s2, s3, s4, s5, s6, s7]
  simp only [wire_Reader_Bits.l0]
  rw [if_neg (by omega), if_pos (by omega), hx]
  congr 2
  omega
theorem rbits_short (k : Nat) (s : ByteArray) (h : s.size < 8) : wire_Reader_Bits.f (k + 2) s none = some (0, s, some 11) := by
  unfold wire_Reader_Bits.f
  rw [if_pos (show (none : Option Int).isNone = true from rfl)]
  simp only [wire_Reader_Bits.j0, wire_Reader_Bits.j1]
  rw [if_pos (decide_eq_true (by omega)), if_neg (by simp)]
  rfl
theorem rbits_err (k : Nat) (s : ByteArray) (e : Int) : wire_Reader_Bits.f (k + 2) s (some e) = some (0, s, some e) := by
  unfold wire_Reader_Bits.f
  rw [if_neg (by simp)]
  simp only [wire_Reader_Bits.j0, wire_Reader_Bits.j1]
  rw [if_neg (by simp), if_neg (by simp)]
  rfl
theorem wnum_g {k : Nat} (hk : 3 ≤ k) (m : Nat) (l : List Int) (n : Int) (hn : n = (m : Int) - 1) (hm : m ≤ 1048577) (hl : l.length < 140737488350000) : wire_Writer_Num.f k l n = some (l ++ encN m) := by
  obtain ⟨q, rfl⟩ : ∃ q, k = q + 3 := ⟨k - 3, by omega⟩
  exact wnum_f q m l n hn hm hl
theorem wbits_g {k : Nat} (hk : 9 ≤ k) (v : Nat) (l : List Int) (hl : l.length < 140737488350000) : wire_Writer_Bits.f k l (v : Int) = some (l ++ enc8 v) := by
  obtain ⟨q, rfl⟩ : ∃ q, k = q + 9 := ⟨k - 9, by omega⟩
  exact wbits_f q v l hl
theorem rnum_g {k : Nat} (hk : 8 ≤ k) (m : Nat) (l : List Int) (most : Int) (hm : m < 2097152) (hb : Bytes l) : wire_Reader_Num.f k (strOfNums (encN m ++ l)) none most = if (m : Int) - 1 > most then some (0, strOfNums (encN m ++ l), some 12) else some ((m : Int) - 1, strOfNums l, none) := by
  obtain ⟨q, rfl⟩ : ∃ q, k = q + 8 := ⟨k - 8, by omega⟩
  exact rnum_f q m l most hm hb
theorem rbits_g {k : Nat} (hk : 11 ≤ k) (v : Nat) (l : List Int) (hv : v < 18446744073709551616) (hb : Bytes l) : wire_Reader_Bits.f k (strOfNums (enc8 v ++ l)) none = some ((v : Int), strOfNums l, none) := by
  obtain ⟨q, rfl⟩ : ∃ q, k = q + 11 := ⟨k - 11, by omega⟩
  exact rbits_f q v l hv hb
theorem known_f (k : Nat) : tontinelaw2_known.f (k + 16) = some true := by
  induction k with
  | zero => decide +kernel
  | succ k ih => exact tontinelaw2_known.mono _ true ih
end Go.Proofs.Ytiejhnijfgdapaa.WireR
