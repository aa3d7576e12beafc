/- What is written is read, and nothing is left; it is the shortest way to write it: of every rows of at most thirty numbers from -1 to the greatest, of at most thirty sets. -/
import Derived.Test.YtiejhnijfgdapaaPx7
import Derived.Test.YtiejhnijfgdapaaWireR
namespace Go.Proofs.Ytiejhnijfgdapaa.Pure
open Go Go.RowKit Go.Proofs.Ytiejhnijfgdapaa Go.Proofs.Ytiejhnijfgdapaa.P Go.Proofs.Ytiejhnijfgdapaa.WireR Go.Proofs.YtiejhnijfgdapaaW.PrintWords Go.Proofs.YtiejhnijfgdapaaW.PrintLast Go.Proofs.YtiejhnijfgdapaaW.PrintMore

def numsOf (l : List Int) : List Int := l.flatMap (fun x => encN (x + 1).toNat)
def setsOf (l : List Int) : List Int := l.flatMap (fun x => enc8 x.toNat)
theorem bytes_nums (l : List Int) (h : ∀ x ∈ l, -1 ≤ x ∧ x ≤ 1048576) : Bytes (numsOf l) := by
  intro x hx
  obtain ⟨y, hy, hx⟩ := List.mem_flatMap.mp hx
  have := h y hy
  exact bytes_encN _ (by omega) x hx
theorem bytes_sets (l : List Int) : Bytes (setsOf l) := by
  intro x hx
  obtain ⟨y, hy, hx⟩ := List.mem_flatMap.mp hx
  exact bytes_enc8 _ x hx
theorem sets_len (l : List Int) : (setsOf l).length = 8 * l.length := by
  induction l with
  | nil => rfl
  | cons x l ih => unfold setsOf at ih ⊢; rw [List.flatMap_cons, List.length_append, ih, enc8_len, List.length_cons]; omega
theorem nums_len (l : List Int) : (numsOf l).length ≤ 3 * l.length := by
  induction l with
  | nil => simp [numsOf]
  | cons x l ih => unfold numsOf at ih ⊢; rw [List.flatMap_cons, List.length_append, List.length_cons, encN_len]; split <;> (try split) <;> omega
theorem rd_get (l : List Int) (i : Nat) (h : i < l.length) : rd l (i : Int) = l[i] := by
  simp [rd, List.getD_eq_getElem?_getD, List.getElem?_eq_getElem h]
theorem take_nums (l : List Int) (i : Nat) (h : i < l.length) : numsOf (l.take (i + 1)) = numsOf (l.take i) ++ encN (l[i] + 1).toNat := by
  unfold numsOf; rw [List.take_succ_eq_append_getElem h, List.flatMap_append, List.flatMap_cons, List.flatMap_nil, List.append_nil]
theorem take_sets (l : List Int) (i : Nat) (h : i < l.length) : setsOf (l.take (i + 1)) = setsOf (l.take i) ++ enc8 (l[i]).toNat := by
  unfold setsOf; rw [List.take_succ_eq_append_getElem h, List.flatMap_append, List.flatMap_cons, List.flatMap_nil, List.append_nil]
theorem drop_nums (l : List Int) (i : Nat) (h : i < l.length) : numsOf (l.drop i) = encN (l[i] + 1).toNat ++ numsOf (l.drop (i + 1)) := by
  unfold numsOf; rw [List.drop_eq_getElem_cons h, List.flatMap_cons]
theorem drop_sets (l : List Int) (i : Nat) (h : i < l.length) : setsOf (l.drop i) = enc8 (l[i]).toNat ++ setsOf (l.drop (i + 1)) := by
  unfold setsOf; rw [List.drop_eq_getElem_cons h, List.flatMap_cons]
theorem wsucc (j : Nat) (h : j ≤ 1000000) : wrap64 ((j : Int) + 1) = ((j + 1 : Nat) : Int) := by rw [wrap_in (by omega) (by omega)]; omega

section
variable (l m : List Int) (hl : l.length ≤ 30) (hm : m.length ≤ 30) (h1 : ∀ x ∈ l, -1 ≤ x ∧ x ≤ 1048576) (h2 : ∀ x ∈ m, 0 ≤ x ∧ x ≤ 18446744073709551615)
include hm h2 in
theorem back_l3 : ∀ (d j k : Nat), j + d = m.length → d + 20 ≤ k → tontinelaw2_WireBack.l3 k m (j : Int) (strOfNums (setsOf (m.drop j))) none = some true := by
  intro d
  induction d with
  | zero =>
    intro j k hj hk
    obtain ⟨k, rfl⟩ : ∃ m, k = m + 1 := ⟨k - 1, by omega⟩
    simp only [tontinelaw2_WireBack.l3]
    rw [if_neg (by omega), List.drop_eq_nil_of_le (by omega)]
    simp only [wire_Reader_Left.f, wire_Reader_Err.f, bind_some']
    rw [if_pos (by rfl), if_pos (by rfl)]
  | succ d ih =>
    intro j k hj hk
    obtain ⟨k, rfl⟩ : ∃ m, k = m + 1 := ⟨k - 1, by omega⟩
    have hj2 : j < m.length := by omega
    have h := ih (j + 1) k (by omega) (by omega)
    have hx := h2 m[j] (List.getElem_mem hj2)
    have hr := rbits_g (k := k) (by omega) (m[j]).toNat (setsOf (m.drop (j + 1))) (by omega) (bytes_sets _)
    rw [show ((m[j].toNat : Nat) : Int) = m[j] by omega] at hr
    simp only [tontinelaw2_WireBack.l3]
    rw [if_pos (by omega), drop_sets m j hj2, hr, bind_some', if_pos (by omega), rd_get m j hj2, if_pos rfl, wsucc j (by omega), h]
include hl hm h1 h2 in
theorem back_l2 : ∀ (d j k : Nat), j + d = l.length → d + 60 ≤ k → tontinelaw2_WireBack.l2 k l m (j : Int) (strOfNums (numsOf (l.drop j) ++ setsOf m)) none = some true := by
  intro d
  induction d with
  | zero =>
    intro j k hj hk
    obtain ⟨k, rfl⟩ : ∃ m, k = m + 1 := ⟨k - 1, by omega⟩
    simp only [tontinelaw2_WireBack.l2]
    rw [if_neg (by omega), List.drop_eq_nil_of_le (by omega)]
    exact back_l3 m hm h2 m.length 0 k (by omega) (by omega)
  | succ d ih =>
    intro j k hj hk
    obtain ⟨k, rfl⟩ : ∃ m, k = m + 1 := ⟨k - 1, by omega⟩
    have hj2 : j < l.length := by omega
    have h := ih (j + 1) k (by omega) (by omega)
    have hx := h1 l[j] (List.getElem_mem hj2)
    have hr := rnum_g (k := k) (by omega) (l[j] + 1).toNat (numsOf (l.drop (j + 1)) ++ setsOf m) 1048576 (by omega) (bytes_app (bytes_nums _ (fun x hx => h1 x (List.mem_of_mem_drop hx))) (bytes_sets _))
    rw [show (((l[j] + 1).toNat : Nat) : Int) - 1 = l[j] by omega, if_neg (by omega)] at hr
    simp only [tontinelaw2_WireBack.l2]
    rw [if_pos (by omega), drop_nums l j hj2, List.append_assoc, hr, bind_some', if_pos (by omega), rd_get l j hj2, if_pos rfl, wsucc j (by omega), h]
include hl hm h1 h2 in
theorem back_l1 : ∀ (d j k : Nat), j + d = m.length → d + 100 ≤ k → tontinelaw2_WireBack.l1 k l m ((numsOf l).length : Int) (j : Int) (numsOf l ++ setsOf (m.take j)) = some true := by
  intro d
  have hL := nums_len l
  induction d with
  | zero =>
    intro j k hj hk
    obtain ⟨k, rfl⟩ : ∃ m, k = m + 1 := ⟨k - 1, by omega⟩
    simp only [tontinelaw2_WireBack.l1]
    rw [if_neg (by omega), List.take_of_length_le (by omega)]
    simp only [wire_Writer_String.f, wire_Of.f, bind_some']
    have hs := size_num (numsOf l ++ setsOf m)
    rw [List.length_append, sets_len] at hs
    rw [show wrap64 (8 * (m.length : Int)) = ((8 * m.length : Nat) : Int) by rw [wrap_in (by omega) (by omega)]; omega]
    rw [show wrap64 (((numsOf l).length : Int) + ((8 * m.length : Nat) : Int)) = (((numsOf l).length + 8 * m.length : Nat) : Int) by rw [wrap_in (by omega) (by omega)]; omega]
    rw [if_pos (by omega)]
    exact back_l2 l m hl hm h1 h2 l.length 0 k (by omega) (by omega)
  | succ d ih =>
    intro j k hj hk
    obtain ⟨k, rfl⟩ : ∃ m, k = m + 1 := ⟨k - 1, by omega⟩
    have hj2 : j < m.length := by omega
    have h := ih (j + 1) k (by omega) (by omega)
    have hx := h2 m[j] (List.getElem_mem hj2)
    have hw := wbits_g (k := k) (by omega) (m[j]).toNat (numsOf l ++ setsOf (m.take j)) (by rw [List.length_append, sets_len, List.length_take]; omega)
    rw [show ((m[j].toNat : Nat) : Int) = m[j] by omega] at hw
    simp only [tontinelaw2_WireBack.l1]
    rw [if_pos (by omega), if_pos (by omega), rd_get m j hj2, hw, bind_some', wsucc j (by omega), List.append_assoc, ← take_sets m j hj2, h]
end
section
variable (l m : List Int) (hl : l.length ≤ 30) (hm : m.length ≤ 30) (h2 : ∀ x ∈ m, 0 ≤ x ∧ x ≤ 18446744073709551615)
include hl hm h2 in
theorem back_l0 : ∀ (d j k : Nat), j + d = l.length → 3 * d + 200 ≤ k → (∀ x ∈ l.take j, -1 ≤ x ∧ x ≤ 1048576) → tontinelaw2_WireBack.l0 k l m ((numsOf (l.take j)).length : Int) (j : Int) (numsOf (l.take j)) = some true := by
  intro d
  induction d with
  | zero =>
    intro j k hj hk hp
    obtain ⟨k, rfl⟩ : ∃ m, k = m + 1 := ⟨k - 1, by omega⟩
    simp only [tontinelaw2_WireBack.l0]
    rw [List.take_of_length_le (by omega)] at hp ⊢
    rw [if_neg (by omega)]
    have := back_l1 l m hl hm hp h2 m.length 0 k (by omega) (by omega)
    rw [List.take_zero, show setsOf [] = [] from rfl, List.append_nil] at this
    exact this
  | succ d ih =>
    intro j k hj hk hp
    obtain ⟨k, rfl⟩ : ∃ m, k = m + 3 := ⟨k - 3, by omega⟩
    have hj2 : j < l.length := by omega
    have hL := nums_len (l.take j)
    rw [List.length_take] at hL
    have hS0 : (numsOf (l.take j)).length ≤ 1000 := by omega
    simp only [tontinelaw2_WireBack.l0]
    rw [if_pos (by omega), if_pos (by omega), rd_get l j hj2]
    by_cases c1 : l[j] < -1
    · rw [if_pos c1]; simp only [tontinelaw2_WireBack.j2]; rfl
    · rw [if_neg c1]
      by_cases c2 : l[j] > 1048576
      · rw [decide_eq_true c2]; simp only [tontinelaw2_WireBack.j2]; rfl
      · rw [decide_eq_false c2]
        have hp2 : ∀ x ∈ l.take (j + 1), -1 ≤ x ∧ x ≤ 1048576 := by
          intro x hx
          rw [List.take_succ_eq_append_getElem hj2] at hx
          rcases List.mem_append.mp hx with hx | hx
          · exact hp x hx
          · simp at hx; omega
        have h := ih (j + 1) k (by omega) (by omega) hp2
        have hw := wnum_g (k := k + 1) (by omega) (l[j] + 1).toNat (numsOf (l.take j)) l[j] (by omega) (by omega) (by omega)
        rw [← take_nums l j hj2] at hw
        have hlen : (numsOf (l.take (j + 1))).length = (numsOf (l.take j)).length + if (l[j] + 1).toNat < 128 then 1 else if (l[j] + 1).toNat < 16384 then 2 else 3 := by
          rw [take_nums l j hj2, List.length_append, encN_len]
        generalize (numsOf (l.take j)).length = S at hlen hL hS0 ⊢
        have w1 : wrap64 ((S : Int) + 1) = ((S + 1 : Nat) : Int) := wsucc S (Nat.le_trans hS0 (by decide))
        have w2 : wrap64 (((S + 1 : Nat) : Int) + 1) = ((S + 2 : Nat) : Int) := wsucc (S + 1) (Nat.le_trans (Nat.add_le_add_right hS0 _) (by decide))
        have w3 : wrap64 (((S + 2 : Nat) : Int) + 1) = ((S + 3 : Nat) : Int) := wsucc (S + 2) (Nat.le_trans (Nat.add_le_add_right hS0 _) (by decide))
        simp only [tontinelaw2_WireBack.j2]
        rw [if_neg (by simp), if_pos (by omega)]
        rw [if_pos (by omega)]
        rw [rd_get l j hj2]
        rw [hw]
        rw [bind_some']
        rw [w1]
        rw [w2]
        by_cases c3 : l[j] ≥ 127
        · rw [if_pos c3]
          simp only [tontinelaw2_WireBack.j3]
          rw [if_pos (by omega), if_pos (by omega), rd_get l j hj2, w3, wsucc j (by omega)]
          by_cases c4 : l[j] ≥ 16383
          · rw [if_pos c4]
            rw [if_neg (by omega), if_neg (by omega)] at hlen
            rw [hlen] at h; exact h
          · rw [if_neg c4]
            rw [if_neg (by omega), if_pos (by omega)] at hlen
            rw [hlen] at h; exact h
        · rw [if_neg c3]
          simp only [tontinelaw2_WireBack.j3]
          rw [if_pos (by omega), if_pos (by omega), rd_get l j hj2, w2, wsucc j (by omega)]
          rw [if_neg (by omega)]
          rw [if_pos (by omega)] at hlen
          rw [hlen] at h; exact h
end
theorem WireBack : ∀ (x0 : List Int) (x1 : List Int), (x0.length ≤ 9223372036854775807 ∧ ∀ y ∈ x0, (-9223372036854775808 ≤ y ∧ y ≤ 9223372036854775807)) → (x1.length ≤ 9223372036854775807 ∧ ∀ y ∈ x1, (0 ≤ y ∧ y ≤ 18446744073709551615)) → ∃ k, tontinelaw2_WireBack.f k x0 x1 = some true := by
  intro l m hl hm
  refine ⟨400, ?_⟩
  unfold tontinelaw2_WireBack.f
  rw [show (400 : Nat) = 384 + 16 from rfl, known_f, bind_some', if_pos rfl]
  by_cases c : (l.length : Int) > 30
  · rw [if_pos c]; simp only [tontinelaw2_WireBack.j0]; rfl
  · rw [if_neg c]
    by_cases c2 : (m.length : Int) > 30
    · rw [decide_eq_true c2]; simp only [tontinelaw2_WireBack.j0]; rfl
    · rw [decide_eq_false c2]
      simp only [tontinelaw2_WireBack.j0]
      rw [if_neg (by simp), wire_New.f, bind_some']
      exact back_l0 l m (by omega) (by omega) hm.2 l.length 0 399 (by omega) (by omega) (fun x hx => by simp at hx)
end Go.Proofs.Ytiejhnijfgdapaa.Pure
