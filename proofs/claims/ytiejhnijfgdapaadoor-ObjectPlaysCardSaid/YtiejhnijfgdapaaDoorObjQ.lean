/- What the reference's objects do, in the same words; and that they agree with the objects where an ID waits for one object at most. -/
import Derived.Test.YtiejhnijfgdapaaDoorObjR
import Derived.Test.YtiejhnijfgdapaaDoorPx7
import Derived.Test.YtiejhnijfgdapaaDoorPx9
import Derived.Test.YtiejhnijfgdapaaDoorPx6
namespace Go.Proofs.YtiejhnijfgdapaaDoor.ObjQ
open Go Go.RowKit Go.Proofs.YtiejhnijfgdapaaDoor Go.Proofs.YtiejhnijfgdapaaDoor.P Go.Proofs.YtiejhnijfgdapaaDoor.ObjR Go.Proofs.YtiejhnijfgdapaaDoorW.PrintWords Go.Proofs.YtiejhnijfgdapaaDoorW.PrintLast Go.Proofs.YtiejhnijfgdapaaDoorW.PrintMore

theorem has_l0 (l : List Int) (x : Int) (hl : l.length < 1000000000) : ∀ (d j k : Nat), j + d = l.length → d < k → tontineref8_has.l0 k l x (j : Int) = some ((l.drop j).contains x) := by
  intro d
  induction d with
  | zero =>
    intro j k hj hk
    obtain ⟨k, rfl⟩ : ∃ m, k = m + 1 := ⟨k - 1, by omega⟩
    rw [tontineref8_has.l0, if_neg (by omega), List.drop_eq_nil_of_le (by omega)]; rfl
  | succ d ih =>
    intro j k hj hk
    obtain ⟨k, rfl⟩ : ∃ m, k = m + 1 := ⟨k - 1, by omega⟩
    have hj2 : j < l.length := by omega
    have w := succw j (by omega)
    rw [tontineref8_has.l0, if_pos (by omega), if_pos (by omega), rd_get l j hj2, List.drop_eq_getElem_cons hj2, List.contains_cons]
    by_cases c : l[j] = x
    · rw [if_pos c, show (x == l[j]) = true from beq_iff_eq.mpr c.symm, Bool.true_or]
    · rw [if_neg c, w, ih (j + 1) k (by omega) (by omega), show (x == l[j]) = false from beq_eq_false_iff_ne.mpr (fun e => c e.symm), Bool.false_or]
theorem has_f (l : List Int) (x : Int) (k : Nat) (hl : l.length < 1000000000) (hk : l.length < k) : tontineref8_has.f k l x = some (l.contains x) := by
  have h := has_l0 l x hl l.length 0 k (by omega) hk
  rw [List.drop_zero] at h
  exact h
theorem obj_f (o : Int) : tontineref8_obj.f o = some (decide (0 ≤ o) && decide (o < 4)) := by
  unfold tontineref8_obj.f; by_cases h : o ≥ 0 <;> simp [h] <;> omega
theorem obj_in (o : Nat) (h : o < 4) : tontineref8_obj.f (o : Int) = some true := by rw [obj_f, decide_eq_true (by omega), decide_eq_true (by omega)]; rfl
theorem obj_out (o : Int) (h : ¬ (0 ≤ o ∧ o < 4)) : tontineref8_obj.f o = some false := by
  rw [obj_f]; congr 1; rw [Bool.and_eq_false_iff, decide_eq_false_iff_not, decide_eq_false_iff_not]; omega
/-- Counts first, then rows. -/
abbrev QT := Int × Int × Int × Int × List Int × List Int × List Int × List Int
def toQ (t : St) : QT := (t.1, t.2.2.1, t.2.2.2.2.1, t.2.2.2.2.2.2.1, t.2.1, t.2.2.2.1, t.2.2.2.2.2.1, t.2.2.2.2.2.2.2)
def waitQ (t : St) (id : Int) (o : Nat) : Bool × Int × St :=
  if waitI t id ≥ 0 then (false, 20, t) else if cnt t o > 0 then (true, 0, setC t o (wrap64 (cnt t o - 1))) else (false, 0, setR t o (row t o ++ [id]))
theorem rwait_out (t : St) (id o : Int) (ho : ¬ (0 ≤ o ∧ o < 4)) (k : Nat) :
    tontineref8_Objects_Wait.f k t.1 t.2.2.1 t.2.2.2.2.1 t.2.2.2.2.2.2.1 t.2.1 t.2.2.2.1 t.2.2.2.2.2.1 t.2.2.2.2.2.2.2 id o = some (false, 10, toQ t) := by
  unfold tontineref8_Objects_Wait.f
  rw [obj_out o ho, bind_some', if_neg (by decide)]; rfl

theorem rwait_end (c0 c1 c2 c3 : Int) (l0 l1 l2 l3 : List Int) (id : Int) (o : Nat) (ho : o < 4) (k n : Nat) (hn : n < 1000000000) (hs : Short n (c0, l0, c1, l1, c2, l2, c3, l3)) :
    tontineref8_Objects_Wait.l0 (k + 1) id o 4 c0 c1 c2 c3 l0 l1 l2 l3 = some (if cnt (c0, l0, c1, l1, c2, l2, c3, l3) o > 0 then (true, 0, toQ (setC (c0, l0, c1, l1, c2, l2, c3, l3) o (wrap64 (cnt (c0, l0, c1, l1, c2, l2, c3, l3) o - 1)))) else (false, 0, toQ (setR (c0, l0, c1, l1, c2, l2, c3, l3) o (row (c0, l0, c1, l1, c2, l2, c3, l3) o ++ [id])))) := by
  have hl := hs o ho
  rw [tontineref8_Objects_Wait.l0, if_neg (by omega), if_pos (by omega), if_pos (by omega)]
  rcases lt4 ho with rfl | rfl | rfl | rfl
  · rw [if_pos (by omega)]
    simp only [cnt, row] at hl ⊢
    split
    · rfl
    · rw [if_pos (by rw [List.length_nil]; omega), bind_some', bind_some', if_pos (by rw [List.nil_append, List.length_singleton]; omega)]; rfl
  · rw [if_neg (by omega), if_pos (by omega)]
    simp only [cnt, row] at hl ⊢
    split
    · rfl
    · rw [if_pos (by rw [List.length_nil]; omega), bind_some', bind_some', if_pos (by rw [List.nil_append, List.length_singleton]; omega)]; rfl
  · rw [if_neg (by omega), if_neg (by omega), if_pos (by omega)]
    simp only [cnt, row] at hl ⊢
    split
    · rfl
    · rw [if_pos (by rw [List.length_nil]; omega), bind_some', bind_some', if_pos (by rw [List.nil_append, List.length_singleton]; omega)]; rfl
  · rw [if_neg (by omega), if_neg (by omega), if_neg (by omega), if_pos (by omega)]
    simp only [cnt, row] at hl ⊢
    split
    · rfl
    · rw [if_pos (by rw [List.length_nil]; omega), bind_some', bind_some', if_pos (by rw [List.nil_append, List.length_singleton]; omega)]; rfl
theorem rwait_f (t : St) (id : Int) (o : Nat) (ho : o < 4) (n k : Nat) (hs : Short n t) (hn : n < 1000000000) (hk : n + 6 ≤ k) :
    tontineref8_Objects_Wait.f k t.1 t.2.2.1 t.2.2.2.2.1 t.2.2.2.2.2.2.1 t.2.1 t.2.2.2.1 t.2.2.2.2.2.1 t.2.2.2.2.2.2.2 id (o : Int) = some ((waitQ t id o).1, (waitQ t id o).2.1, toQ (waitQ t id o).2.2) := by
  obtain ⟨k, rfl⟩ : ∃ m, k = m + 5 := ⟨k - 5, by omega⟩
  have h0 := hs 0 (by omega); have h1 := hs 1 (by omega); have h2 := hs 2 (by omega); have h3 := hs 3 (by omega)
  obtain ⟨c0, l0, c1, l1, c2, l2, c3, l3⟩ := t
  simp only [row] at h0 h1 h2 h3
  have e0 := has_f l0 id (k + 4) (by omega) (by omega)
  have e1 := has_f l1 id (k + 3) (by omega) (by omega)
  have e2 := has_f l2 id (k + 2) (by omega) (by omega)
  have e3 := has_f l3 id (k + 1) (by omega) (by omega)
  have w0 : wrap64 (0 + 1) = 1 := by decide +kernel
  have w1 : wrap64 (1 + 1) = 2 := by decide +kernel
  have w2 : wrap64 (2 + 1) = 3 := by decide +kernel
  have w3 : wrap64 (3 + 1) = 4 := by decide +kernel
  have fin := rwait_end c0 c1 c2 c3 l0 l1 l2 l3 id o ho k n hn hs
  unfold tontineref8_Objects_Wait.f
  rw [obj_in o ho, bind_some', if_pos rfl]
  dsimp only
  have go : ∀ b : Bool, b = decide (waitI (c0, l0, c1, l1, c2, l2, c3, l3) id ≥ 0) → (b = true → tontineref8_Objects_Wait.l0 (k + 5) id o 0 c0 c1 c2 c3 l0 l1 l2 l3 = some (false, 20, c0, c1, c2, c3, l0, l1, l2, l3)) → (b = false → tontineref8_Objects_Wait.l0 (k + 5) id o 0 c0 c1 c2 c3 l0 l1 l2 l3 = tontineref8_Objects_Wait.l0 (k + 1) id o 4 c0 c1 c2 c3 l0 l1 l2 l3) →
      tontineref8_Objects_Wait.l0 (k + 5) id o 0 c0 c1 c2 c3 l0 l1 l2 l3 = some ((waitQ (c0, l0, c1, l1, c2, l2, c3, l3) id o).1, (waitQ (c0, l0, c1, l1, c2, l2, c3, l3) id o).2.1, toQ (waitQ (c0, l0, c1, l1, c2, l2, c3, l3) id o).2.2) := by
    intro b hb ht hf
    unfold waitQ
    cases b with
    | true => rw [ht rfl, if_pos (of_decide_eq_true hb.symm)]; rfl
    | false =>
      rw [hf rfl, if_neg (of_decide_eq_false hb.symm), fin]
      split <;> rfl
  refine go (l0.contains id || l1.contains id || l2.contains id || l3.contains id) ?_ ?_ ?_
  · unfold waitI
    simp only [row]
    generalize l0.contains id = b0, l1.contains id = b1, l2.contains id = b2, l3.contains id = b3
    cases b0 <;> cases b1 <;> cases b2 <;> cases b3 <;> rfl
  · intro hb
    rw [show k + 5 = (k + 4) + 1 from rfl, tontineref8_Objects_Wait.l0, if_pos (by omega), if_pos (by omega), if_pos rfl, e0, bind_some']
    by_cases a0 : l0.contains id = true
    · rw [if_pos a0]
    rw [if_neg a0, w0, show k + 4 = (k + 3) + 1 from rfl, tontineref8_Objects_Wait.l0, if_pos (by omega), if_pos (by omega), if_neg (by omega), if_pos rfl, e1, bind_some']
    by_cases a1 : l1.contains id = true
    · rw [if_pos a1]
    rw [if_neg a1, w1, show k + 3 = (k + 2) + 1 from rfl, tontineref8_Objects_Wait.l0, if_pos (by omega), if_pos (by omega), if_neg (by omega), if_neg (by omega), if_pos rfl, e2, bind_some']
    by_cases a2 : l2.contains id = true
    · rw [if_pos a2]
    rw [if_neg a2, w2, show k + 2 = (k + 1) + 1 from rfl, tontineref8_Objects_Wait.l0, if_pos (by omega), if_pos (by omega), if_neg (by omega), if_neg (by omega), if_neg (by omega), if_pos rfl, e3, bind_some']
    by_cases a3 : l3.contains id = true
    · rw [if_pos a3]
    simp only [Bool.not_eq_true] at a0 a1 a2 a3
    rw [a0, a1, a2, a3] at hb; cases hb
  · intro hb
    simp only [Bool.or_eq_false_iff] at hb
    obtain ⟨⟨⟨a0, a1⟩, a2⟩, a3⟩ := hb
    rw [show k + 5 = (k + 4) + 1 from rfl, tontineref8_Objects_Wait.l0, if_pos (by omega), if_pos (by omega), if_pos rfl, e0, bind_some', if_neg (by rw [a0]; decide), w0, show k + 4 = (k + 3) + 1 from rfl, tontineref8_Objects_Wait.l0, if_pos (by omega), if_pos (by omega), if_neg (by omega), if_pos rfl, e1, bind_some', if_neg (by rw [a1]; decide), w1, show k + 3 = (k + 2) + 1 from rfl, tontineref8_Objects_Wait.l0, if_pos (by omega), if_pos (by omega), if_neg (by omega), if_neg (by omega), if_pos rfl, e2, bind_some', if_neg (by rw [a2]; decide), w2, show k + 2 = (k + 1) + 1 from rfl, tontineref8_Objects_Wait.l0, if_pos (by omega), if_pos (by omega), if_neg (by omega), if_neg (by omega), if_neg (by omega), if_pos rfl, e3, bind_some', if_neg (by rw [a3]; decide), w3]
def off (id : Int) (l : List Int) : List Int := l.filter (fun z => !(z == id))
theorem rdrop_l1_0 (c0 c1 c2 c3 : Int) (l0 l1 l2 l3 : List Int) (id : Int) (hl : l0.length < 1000000000) : ∀ (d j k : Nat) (met : Bool) (acc : List Int), j + d = l0.length → acc.length ≤ j →
    tontineref8_Objects_Drop.l1 (k + d + 1) id met 0 acc (j : Int) c0 c1 c2 c3 l0 l1 l2 l3 = tontineref8_Objects_Drop.l0 k id (met || (l0.drop j).contains id) 1 c0 c1 c2 c3 (acc ++ off id (l0.drop j)) l1 l2 l3 := by
  intro d
  induction d with
  | zero =>
    intro j k met acc hj ha
    rw [tontineref8_Objects_Drop.l1, if_pos (by omega), if_pos (by omega), if_pos (by omega), if_neg (by omega), List.drop_eq_nil_of_le (by omega), show wrap64 (0 + 1) = 1 from by decide +kernel]
    simp [off]
  | succ d ih =>
    intro j k met acc hj ha
    have hj2 : j < l0.length := by omega
    have w := succw j (by omega)
    rw [show k + (d + 1) + 1 = (k + d + 1) + 1 from by omega, tontineref8_Objects_Drop.l1, if_pos (by omega), if_pos (by omega), if_pos (by omega), if_pos (by omega), if_pos (by omega), rd_get l0 j hj2, List.drop_eq_getElem_cons hj2, List.contains_cons, w]
    by_cases c : l0[j] = id
    · rw [if_pos c, ih (j + 1) k true acc (by omega) (by omega), show (id == l0[j]) = true from beq_iff_eq.mpr c.symm]
      simp [off, c]
    · rw [if_neg c, if_pos (by omega), ih (j + 1) k met (acc ++ [l0[j]]) (by omega) (by rw [List.length_append, List.length_singleton]; omega), show (id == l0[j]) = false from beq_eq_false_iff_ne.mpr (fun e => c e.symm), show off id (l0[j] :: l0.drop (j + 1)) = l0[j] :: off id (l0.drop (j + 1)) from List.filter_cons_of_pos (by simp [c]), Bool.false_or, List.append_assoc]
      rfl
theorem rdrop_l0_0 (c0 c1 c2 c3 : Int) (l0 l1 l2 l3 : List Int) (id : Int) (hl : l0.length < 1000000000) (k : Nat) (met : Bool) :
    tontineref8_Objects_Drop.l0 (k + l0.length + 2) id met 0 c0 c1 c2 c3 l0 l1 l2 l3 = tontineref8_Objects_Drop.l0 k id (met || l0.contains id) 1 c0 c1 c2 c3 (off id l0) l1 l2 l3 := by
  have h := rdrop_l1_0 c0 c1 c2 c3 l0 l1 l2 l3 id hl l0.length 0 k met [] (by omega) (by simp)
  rw [tontineref8_Objects_Drop.l0, if_pos (by omega)]
  rw [List.drop_zero, List.nil_append] at h
  exact h
theorem rdrop_l1_1 (c0 c1 c2 c3 : Int) (l0 l1 l2 l3 : List Int) (id : Int) (hl : l1.length < 1000000000) : ∀ (d j k : Nat) (met : Bool) (acc : List Int), j + d = l1.length → acc.length ≤ j →
    tontineref8_Objects_Drop.l1 (k + d + 1) id met 1 acc (j : Int) c0 c1 c2 c3 l0 l1 l2 l3 = tontineref8_Objects_Drop.l0 k id (met || (l1.drop j).contains id) 2 c0 c1 c2 c3 l0 (acc ++ off id (l1.drop j)) l2 l3 := by
  intro d
  induction d with
  | zero =>
    intro j k met acc hj ha
    rw [tontineref8_Objects_Drop.l1, if_pos (by omega), if_pos (by omega), if_neg (by omega), if_pos (by omega), if_neg (by omega), List.drop_eq_nil_of_le (by omega), show wrap64 (1 + 1) = 2 from by decide +kernel]
    simp [off]
  | succ d ih =>
    intro j k met acc hj ha
    have hj2 : j < l1.length := by omega
    have w := succw j (by omega)
    rw [show k + (d + 1) + 1 = (k + d + 1) + 1 from by omega, tontineref8_Objects_Drop.l1, if_pos (by omega), if_pos (by omega), if_neg (by omega), if_pos (by omega), if_pos (by omega), if_pos (by omega), rd_get l1 j hj2, List.drop_eq_getElem_cons hj2, List.contains_cons, w]
    by_cases c : l1[j] = id
    · rw [if_pos c, ih (j + 1) k true acc (by omega) (by omega), show (id == l1[j]) = true from beq_iff_eq.mpr c.symm]
      simp [off, c]
    · rw [if_neg c, if_pos (by omega), ih (j + 1) k met (acc ++ [l1[j]]) (by omega) (by rw [List.length_append, List.length_singleton]; omega), show (id == l1[j]) = false from beq_eq_false_iff_ne.mpr (fun e => c e.symm), show off id (l1[j] :: l1.drop (j + 1)) = l1[j] :: off id (l1.drop (j + 1)) from List.filter_cons_of_pos (by simp [c]), Bool.false_or, List.append_assoc]
      rfl
theorem rdrop_l0_1 (c0 c1 c2 c3 : Int) (l0 l1 l2 l3 : List Int) (id : Int) (hl : l1.length < 1000000000) (k : Nat) (met : Bool) :
    tontineref8_Objects_Drop.l0 (k + l1.length + 2) id met 1 c0 c1 c2 c3 l0 l1 l2 l3 = tontineref8_Objects_Drop.l0 k id (met || l1.contains id) 2 c0 c1 c2 c3 l0 (off id l1) l2 l3 := by
  have h := rdrop_l1_1 c0 c1 c2 c3 l0 l1 l2 l3 id hl l1.length 0 k met [] (by omega) (by simp)
  rw [tontineref8_Objects_Drop.l0, if_pos (by omega)]
  rw [List.drop_zero, List.nil_append] at h
  exact h
theorem rdrop_l1_2 (c0 c1 c2 c3 : Int) (l0 l1 l2 l3 : List Int) (id : Int) (hl : l2.length < 1000000000) : ∀ (d j k : Nat) (met : Bool) (acc : List Int), j + d = l2.length → acc.length ≤ j →
    tontineref8_Objects_Drop.l1 (k + d + 1) id met 2 acc (j : Int) c0 c1 c2 c3 l0 l1 l2 l3 = tontineref8_Objects_Drop.l0 k id (met || (l2.drop j).contains id) 3 c0 c1 c2 c3 l0 l1 (acc ++ off id (l2.drop j)) l3 := by
  intro d
  induction d with
  | zero =>
    intro j k met acc hj ha
    rw [tontineref8_Objects_Drop.l1, if_pos (by omega), if_pos (by omega), if_neg (by omega), if_neg (by omega), if_pos (by omega), if_neg (by omega), List.drop_eq_nil_of_le (by omega), show wrap64 (2 + 1) = 3 from by decide +kernel]
    simp [off]
  | succ d ih =>
    intro j k met acc hj ha
    have hj2 : j < l2.length := by omega
    have w := succw j (by omega)
    rw [show k + (d + 1) + 1 = (k + d + 1) + 1 from by omega, tontineref8_Objects_Drop.l1, if_pos (by omega), if_pos (by omega), if_neg (by omega), if_neg (by omega), if_pos (by omega), if_pos (by omega), if_pos (by omega), rd_get l2 j hj2, List.drop_eq_getElem_cons hj2, List.contains_cons, w]
    by_cases c : l2[j] = id
    · rw [if_pos c, ih (j + 1) k true acc (by omega) (by omega), show (id == l2[j]) = true from beq_iff_eq.mpr c.symm]
      simp [off, c]
    · rw [if_neg c, if_pos (by omega), ih (j + 1) k met (acc ++ [l2[j]]) (by omega) (by rw [List.length_append, List.length_singleton]; omega), show (id == l2[j]) = false from beq_eq_false_iff_ne.mpr (fun e => c e.symm), show off id (l2[j] :: l2.drop (j + 1)) = l2[j] :: off id (l2.drop (j + 1)) from List.filter_cons_of_pos (by simp [c]), Bool.false_or, List.append_assoc]
      rfl
theorem rdrop_l0_2 (c0 c1 c2 c3 : Int) (l0 l1 l2 l3 : List Int) (id : Int) (hl : l2.length < 1000000000) (k : Nat) (met : Bool) :
    tontineref8_Objects_Drop.l0 (k + l2.length + 2) id met 2 c0 c1 c2 c3 l0 l1 l2 l3 = tontineref8_Objects_Drop.l0 k id (met || l2.contains id) 3 c0 c1 c2 c3 l0 l1 (off id l2) l3 := by
  have h := rdrop_l1_2 c0 c1 c2 c3 l0 l1 l2 l3 id hl l2.length 0 k met [] (by omega) (by simp)
  rw [tontineref8_Objects_Drop.l0, if_pos (by omega)]
  rw [List.drop_zero, List.nil_append] at h
  exact h
theorem rdrop_l1_3 (c0 c1 c2 c3 : Int) (l0 l1 l2 l3 : List Int) (id : Int) (hl : l3.length < 1000000000) : ∀ (d j k : Nat) (met : Bool) (acc : List Int), j + d = l3.length → acc.length ≤ j →
    tontineref8_Objects_Drop.l1 (k + d + 1) id met 3 acc (j : Int) c0 c1 c2 c3 l0 l1 l2 l3 = tontineref8_Objects_Drop.l0 k id (met || (l3.drop j).contains id) 4 c0 c1 c2 c3 l0 l1 l2 (acc ++ off id (l3.drop j)) := by
  intro d
  induction d with
  | zero =>
    intro j k met acc hj ha
    rw [tontineref8_Objects_Drop.l1, if_pos (by omega), if_pos (by omega), if_neg (by omega), if_neg (by omega), if_neg (by omega), if_pos (by omega), if_neg (by omega), List.drop_eq_nil_of_le (by omega), show wrap64 (3 + 1) = 4 from by decide +kernel]
    simp [off]
  | succ d ih =>
    intro j k met acc hj ha
    have hj2 : j < l3.length := by omega
    have w := succw j (by omega)
    rw [show k + (d + 1) + 1 = (k + d + 1) + 1 from by omega, tontineref8_Objects_Drop.l1, if_pos (by omega), if_pos (by omega), if_neg (by omega), if_neg (by omega), if_neg (by omega), if_pos (by omega), if_pos (by omega), if_pos (by omega), rd_get l3 j hj2, List.drop_eq_getElem_cons hj2, List.contains_cons, w]
    by_cases c : l3[j] = id
    · rw [if_pos c, ih (j + 1) k true acc (by omega) (by omega), show (id == l3[j]) = true from beq_iff_eq.mpr c.symm]
      simp [off, c]
    · rw [if_neg c, if_pos (by omega), ih (j + 1) k met (acc ++ [l3[j]]) (by omega) (by rw [List.length_append, List.length_singleton]; omega), show (id == l3[j]) = false from beq_eq_false_iff_ne.mpr (fun e => c e.symm), show off id (l3[j] :: l3.drop (j + 1)) = l3[j] :: off id (l3.drop (j + 1)) from List.filter_cons_of_pos (by simp [c]), Bool.false_or, List.append_assoc]
      rfl
theorem rdrop_l0_3 (c0 c1 c2 c3 : Int) (l0 l1 l2 l3 : List Int) (id : Int) (hl : l3.length < 1000000000) (k : Nat) (met : Bool) :
    tontineref8_Objects_Drop.l0 (k + l3.length + 2) id met 3 c0 c1 c2 c3 l0 l1 l2 l3 = tontineref8_Objects_Drop.l0 k id (met || l3.contains id) 4 c0 c1 c2 c3 l0 l1 l2 (off id l3) := by
  have h := rdrop_l1_3 c0 c1 c2 c3 l0 l1 l2 l3 id hl l3.length 0 k met [] (by omega) (by simp)
  rw [tontineref8_Objects_Drop.l0, if_pos (by omega)]
  rw [List.drop_zero, List.nil_append] at h
  exact h
def dropQ (t : St) (id : Int) : Bool × St := ((row t 0).contains id || (row t 1).contains id || (row t 2).contains id || (row t 3).contains id, (cnt t 0, off id (row t 0), cnt t 1, off id (row t 1), cnt t 2, off id (row t 2), cnt t 3, off id (row t 3)))
theorem off_len (id : Int) (l : List Int) : (off id l).length ≤ l.length := List.length_filter_le _ _
theorem rdrop_f (t : St) (id : Int) (n k : Nat) (hs : Short n t) (hn : n < 1000000000) (hk : 4 * n + 9 ≤ k) :
    tontineref8_Objects_Drop.f k t.1 t.2.2.1 t.2.2.2.2.1 t.2.2.2.2.2.2.1 t.2.1 t.2.2.2.1 t.2.2.2.2.2.1 t.2.2.2.2.2.2.2 id = some ((dropQ t id).1, toQ (dropQ t id).2) := by
  have h0 := hs 0 (by omega); have h1 := hs 1 (by omega); have h2 := hs 2 (by omega); have h3 := hs 3 (by omega)
  obtain ⟨c0, l0, c1, l1, c2, l2, c3, l3⟩ := t
  simp only [row] at h0 h1 h2 h3
  obtain ⟨k, rfl⟩ : ∃ m, k = (m + 1) + l3.length + 2 + l2.length + 2 + l1.length + 2 + l0.length + 2 := ⟨k - (l3.length + l2.length + l1.length + l0.length + 9), by omega⟩
  unfold tontineref8_Objects_Drop.f
  dsimp only
  rw [rdrop_l0_0 _ _ _ _ l0 l1 l2 l3 id (by omega), rdrop_l0_1 _ _ _ _ (off id l0) l1 l2 l3 id (by omega), rdrop_l0_2 _ _ _ _ (off id l0) (off id l1) l2 l3 id (by omega), rdrop_l0_3 _ _ _ _ (off id l0) (off id l1) (off id l2) l3 id (by omega), tontineref8_Objects_Drop.l0, if_neg (by omega), Bool.false_or]
  rfl
/-- An ID waits for one object at most. -/
def Uniq (t : St) : Prop := ∀ i j, i < 4 → j < 4 → i ≠ j → ∀ x, x ∈ row t i → x ∉ row t j
theorem off_not {id : Int} {l : List Int} (h : l.contains id = false) : off id l = l := by
  unfold off
  rw [List.filter_eq_self]
  intro a ha
  have : id ∉ l := by rw [List.contains_eq_mem] at h; exact of_decide_eq_false h
  simp only [Bool.not_eq_true', beq_eq_false_iff_ne]
  rintro rfl; exact this ha
theorem mem_c {id : Int} {l : List Int} : l.contains id = true ↔ id ∈ l := by rw [List.contains_eq_mem]; exact decide_eq_true_iff
theorem not_c {id : Int} {l : List Int} (h : id ∉ l) : l.contains id = false := by rw [List.contains_eq_mem]; exact decide_eq_false h
theorem drop_same (t : St) (id : Int) (hu : Uniq t) : dropQ t id = dropS t id := by
  have q : ∀ i j, i < 4 → j < 4 → i ≠ j → (row t i).contains id = true → (row t j).contains id = false := fun i j hi hj hij h => not_c (hu i j hi hj hij id (mem_c.1 h))
  unfold dropQ dropS waitI
  by_cases a0 : (row t 0).contains id = true
  · have b1 := q 0 1 (by omega) (by omega) (by omega) a0
    have b2 := q 0 2 (by omega) (by omega) (by omega) a0
    have b3 := q 0 3 (by omega) (by omega) (by omega) a0
    rw [if_pos a0, if_neg (by omega), a0, b1, b2, b3, off_not b1, off_not b2, off_not b3]; rfl
  · have b0 : (row t 0).contains id = false := by simpa using a0
    by_cases a1 : (row t 1).contains id = true
    · have b2 := q 1 2 (by omega) (by omega) (by omega) a1
      have b3 := q 1 3 (by omega) (by omega) (by omega) a1
      rw [if_neg a0, if_pos a1, if_neg (by omega), a1, b0, b2, b3, off_not b0, off_not b2, off_not b3]; rfl
    · have b1 : (row t 1).contains id = false := by simpa using a1
      by_cases a2 : (row t 2).contains id = true
      · have b3 := q 2 3 (by omega) (by omega) (by omega) a2
        rw [if_neg a0, if_neg a1, if_pos a2, if_neg (by omega), a2, b0, b1, b3, off_not b0, off_not b1, off_not b3]; rfl
      · have b2 : (row t 2).contains id = false := by simpa using a2
        by_cases a3 : (row t 3).contains id = true
        · rw [if_neg a0, if_neg a1, if_neg a2, if_pos a3, if_neg (by omega), a3, b0, b1, b2, off_not b0, off_not b1, off_not b2]; rfl
        · have b3 : (row t 3).contains id = false := by simpa using a3
          rw [if_neg a0, if_neg a1, if_neg a2, if_neg a3, if_pos (by omega), b0, b1, b2, b3, off_not b0, off_not b1, off_not b2, off_not b3]; rfl
theorem Uniq.sub {t u : St} (hu : Uniq t) (h : ∀ i, i < 4 → ∀ x, x ∈ row u i → x ∈ row t i) : Uniq u := fun i j hi hj hij x hx hy => hu i j hi hj hij x (h i hi x hx) (h j hj x hy)
theorem waitI_none {t : St} {id : Int} (h : ¬ waitI t id ≥ 0) : ∀ i, i < 4 → id ∉ row t i := by
  intro i hi hm
  apply h
  unfold waitI
  rcases lt4 hi with rfl | rfl | rfl | rfl
  · rw [if_pos (mem_c.2 hm)]; omega
  · rw [if_pos (mem_c.2 hm)]; split <;> omega
  · rw [if_pos (mem_c.2 hm)]; split; omega; split <;> omega
  · rw [if_pos (mem_c.2 hm)]; split; omega; split; omega; split <;> omega
theorem wait_same (t : St) (id : Int) (o : Nat) : waitQ t id o = ((waitS t id o).1, (waitS t id o).2.1.elim 0 (fun x => x), (waitS t id o).2.2) := by
  unfold waitQ waitS
  split
  · rfl
  split <;> rfl
theorem wait_keeps {t : St} {id : Int} {o : Nat} (ho : o < 4) (hu : Uniq t) {n : Nat} (hs : Short n t) : Uniq (waitS t id o).2.2 ∧ Short (n + 1) (waitS t id o).2.2 := by
  unfold waitS
  split
  · exact ⟨hu, fun i hi => Nat.le_succ_of_le (hs i hi)⟩
  rename_i hw
  split
  · exact ⟨hu.sub (fun i hi x hx => by rwa [row_setC t o i ho hi] at hx), fun i hi => by rw [show (true, (none : Option Int), setC t o (wrap64 (cnt t o - 1))).2.2 = setC t o (wrap64 (cnt t o - 1)) from rfl, row_setC t o i ho hi]; exact Nat.le_succ_of_le (hs i hi)⟩
  · have nn := waitI_none hw
    refine ⟨?_, ?_⟩
    · intro i j hi hj hij x hx hy
      dsimp only at hx hy
      rw [row_setR t ho hi] at hx
      rw [row_setR t ho hj] at hy
      split at hx
      · rename_i e
        subst e
        rw [if_neg hij] at hy
        rcases List.mem_append.1 hx with h | h
        · exact hu o j ho hj hij x h hy
        · rw [List.mem_singleton] at h; subst h; exact nn j hj hy
      · split at hy
        · rename_i e
          subst e
          rcases List.mem_append.1 hy with h | h
          · exact hu i o hi ho hij x hx h
          · rw [List.mem_singleton] at h; subst h; exact nn i hi hx
        · exact hu i j hi hj hij x hx hy
    · intro i hi
      dsimp only
      rw [row_setR t ho hi]
      split
      · rw [List.length_append, List.length_singleton]; have := hs o ho; omega
      · exact Nat.le_succ_of_le (hs i hi)
theorem signal_keeps {t : St} {o : Nat} (ho : o < 4) (hu : Uniq t) {n : Nat} (hs : Short n t) : Uniq (signalS t o).2.2.2 ∧ Short n (signalS t o).2.2.2 := by
  unfold signalS
  split
  · exact ⟨hu.sub (fun i hi x hx => by rwa [row_setC t o i ho hi] at hx), fun i hi => by dsimp only; rw [row_setC t o i ho hi]; exact hs i hi⟩
  · rename_i x l e
    refine ⟨hu.sub (fun i hi y hy => ?_), fun i hi => ?_⟩
    · dsimp only at hy
      rw [row_setR t ho hi] at hy
      split at hy
      · rename_i e2; subst e2; rw [e]; exact List.mem_cons_of_mem _ hy
      · exact hy
    · dsimp only
      rw [row_setR t ho hi]
      split
      · have := hs o ho; rw [e, List.length_cons] at this; omega
      · exact hs i hi
theorem drop_keeps {t : St} {id : Int} (hu : Uniq t) {n : Nat} (hs : Short n t) : Uniq (dropQ t id).2 ∧ Short n (dropQ t id).2 := by
  have r : ∀ i, i < 4 → row (dropQ t id).2 i = off id (row t i) := by
    intro i hi
    rcases lt4 hi with rfl | rfl | rfl | rfl <;> rfl
  refine ⟨hu.sub (fun i hi y hy => ?_), fun i hi => ?_⟩
  · rw [r i hi] at hy; exact (List.mem_filter.1 hy).1
  · rw [r i hi]; exact Nat.le_trans (off_len id _) (hs i hi)
theorem same_l0 (l : List Int) (hl : l.length < 1000000000) : ∀ (d j k : Nat), j + d = l.length → d < k → tontineref1_SameInts.l0 k l l (j : Int) = some true := by
  intro d
  induction d with
  | zero =>
    intro j k hj hk
    obtain ⟨k, rfl⟩ : ∃ m, k = m + 1 := ⟨k - 1, by omega⟩
    rw [tontineref1_SameInts.l0, if_neg (by omega)]
  | succ d ih =>
    intro j k hj hk
    obtain ⟨k, rfl⟩ : ∃ m, k = m + 1 := ⟨k - 1, by omega⟩
    have w := succw j (by omega)
    rw [tontineref1_SameInts.l0, if_pos (by omega), if_pos (by omega), if_pos (by omega), if_pos rfl, w, ih (j + 1) k (by omega) (by omega)]
theorem same_f (l : List Int) (k : Nat) (hl : l.length < 1000000000) (hk : l.length < k) : tontineref1_SameInts.f k l l = some true := by
  unfold tontineref1_SameInts.f
  rw [if_pos rfl]
  exact same_l0 l hl l.length 0 k (by omega) hk
end Go.Proofs.YtiejhnijfgdapaaDoor.ObjQ
