/- What the objects do, in plain words: four counts and four rows; who waits for what; waiting, signalling, dropping. -/
import Derived.Test.YtiejhnijfgdapaaDoorErrIs
import Derived.Test.YtiejhnijfgdapaaDoorPx1
import Derived.Test.YtiejhnijfgdapaaDoorPx2
import Derived.Test.YtiejhnijfgdapaaDoorPx3
import Derived.Test.YtiejhnijfgdapaaDoorPx4
import Derived.Test.YtiejhnijfgdapaaDoorPx5
import Derived.Test.YtiejhnijfgdapaaDoorPx6
import Derived.Test.YtiejhnijfgdapaaDoorDrop
namespace Go.Proofs.YtiejhnijfgdapaaDoor.ObjR
open Go Go.RowKit Go.Proofs.YtiejhnijfgdapaaDoor Go.Proofs.YtiejhnijfgdapaaDoor.P Go.Proofs.YtiejhnijfgdapaaDoorW.PrintWords Go.Proofs.YtiejhnijfgdapaaDoorW.PrintLast Go.Proofs.YtiejhnijfgdapaaDoorW.PrintMore

theorem bind_some' {α β : Type} (a : α) (f : α → Option β) : (some a).bind f = f a := by simp
theorem wrap_in {n : Int} (h0 : -9223372036854775808 ≤ n) (h1 : n ≤ 9223372036854775807) : wrap64 n = n := by
  unfold wrap64; omega
theorem succw (i : Nat) (h : i < 1000000000) : wrap64 ((i : Int) + 1) = ((i + 1 : Nat) : Int) := by rw [wrap_in (by omega) (by omega)]; omega
theorem rd_get (l : List Int) (i : Nat) (h : i < l.length) : rd l (i : Int) = l[i] := by
  simp [rd, List.getD_eq_getElem?_getD, List.getElem?_eq_getElem h]
/-- Counts and rows, object by object. -/
abbrev St := Int × List Int × Int × List Int × Int × List Int × Int × List Int
def cnt (t : St) (i : Nat) : Int := match i with | 0 => t.1 | 1 => t.2.2.1 | 2 => t.2.2.2.2.1 | _ => t.2.2.2.2.2.2.1
def row (t : St) (i : Nat) : List Int := match i with | 0 => t.2.1 | 1 => t.2.2.2.1 | 2 => t.2.2.2.2.2.1 | _ => t.2.2.2.2.2.2.2
def setC (t : St) (i : Nat) (v : Int) : St := match i with
  | 0 => (v, t.2) | 1 => (t.1, t.2.1, v, t.2.2.2) | 2 => (t.1, t.2.1, t.2.2.1, t.2.2.2.1, v, t.2.2.2.2.2) | _ => (t.1, t.2.1, t.2.2.1, t.2.2.2.1, t.2.2.2.2.1, t.2.2.2.2.2.1, v, t.2.2.2.2.2.2.2)
def setR (t : St) (i : Nat) (v : List Int) : St := match i with
  | 0 => (t.1, v, t.2.2) | 1 => (t.1, t.2.1, t.2.2.1, v, t.2.2.2.2) | 2 => (t.1, t.2.1, t.2.2.1, t.2.2.2.1, t.2.2.2.2.1, v, t.2.2.2.2.2.2) | _ => (t.1, t.2.1, t.2.2.1, t.2.2.2.1, t.2.2.2.2.1, t.2.2.2.2.2.1, t.2.2.2.2.2.2.1, v)
theorem lt4 {i : Nat} (h : i < 4) : i = 0 ∨ i = 1 ∨ i = 2 ∨ i = 3 := by omega
theorem row_setC (t : St) (i j : Nat) (hi : i < 4) (hj : j < 4) (v : Int) : row (setC t i v) j = row t j := by
  rcases lt4 hi with rfl | rfl | rfl | rfl <;> rcases lt4 hj with rfl | rfl | rfl | rfl <;> rfl
theorem row_setR (t : St) {i j : Nat} (hi : i < 4) (hj : j < 4) (v : List Int) : row (setR t i v) j = if i = j then v else row t j := by
  rcases lt4 hi with rfl | rfl | rfl | rfl <;> rcases lt4 hj with rfl | rfl | rfl | rfl <;> rfl
/-- No row is longer than n. -/
def Short (n : Nat) (t : St) : Prop := ∀ i, i < 4 → (row t i).length ≤ n

theorem index_l0 (l : List Int) (x : Int) (hl : l.length < 1000000000) : ∀ (d j k : Nat), j + d = l.length → d < k → ∃ r, slices_Index_int_int.l0 k l x (l.length : Int) (j : Int) = some r ∧ decide (r ≥ 0) = (l.drop j).contains x := by
  intro d
  induction d with
  | zero =>
    intro j k hj hk
    obtain ⟨k, rfl⟩ : ∃ m, k = m + 1 := ⟨k - 1, by omega⟩
    refine ⟨-1, ?_, by rw [List.drop_eq_nil_of_le (by omega)]; rfl⟩
    rw [slices_Index_int_int.l0, if_neg (by omega)]
  | succ d ih =>
    intro j k hj hk
    obtain ⟨k, rfl⟩ : ∃ m, k = m + 1 := ⟨k - 1, by omega⟩
    have hj2 : j < l.length := by omega
    have w := succw j (by omega)
    rw [slices_Index_int_int.l0, if_pos (by omega), if_pos (by omega), if_pos (by omega), rd_get l j hj2, List.drop_eq_getElem_cons hj2]
    by_cases c : x = l[j]
    · rw [if_pos c]; exact ⟨_, rfl, by rw [List.contains_cons, show (x == l[j]) = true from beq_iff_eq.mpr c, Bool.true_or]; exact decide_eq_true (by omega)⟩
    · rw [if_neg c, w]
      obtain ⟨r, h1, h2⟩ := ih (j + 1) k (by omega) (by omega)
      refine ⟨r, h1, ?_⟩
      rw [h2, List.contains_cons, show (x == l[j]) = false from beq_eq_false_iff_ne.mpr c, Bool.false_or]
theorem contains_f (l : List Int) (x : Int) (k : Nat) (hl : l.length < 1000000000) (hk : l.length < k) : slices_Contains_int_int.f k l x = some (l.contains x) := by
  obtain ⟨r, h1, h2⟩ := index_l0 l x hl l.length 0 k (by omega) hk
  unfold slices_Contains_int_int.f slices_Index_int_int.f
  rw [show ((0 : Nat) : Int) = 0 from rfl] at h1
  rw [h1, bind_some', h2, List.drop_zero]
/-- For what one waits. -/
def waitI (t : St) (id : Int) : Int := if (row t 0).contains id then 0 else if (row t 1).contains id then 1 else if (row t 2).contains id then 2 else if (row t 3).contains id then 3 else -1
theorem waits_f (t : St) (id : Int) (n k : Nat) (hs : Short n t) (hn : n < 1000000000) (hk : n + 6 ≤ k) :
    object_Objects_waits.f k t.1 t.2.1 t.2.2.1 t.2.2.2.1 t.2.2.2.2.1 t.2.2.2.2.2.1 t.2.2.2.2.2.2.1 t.2.2.2.2.2.2.2 id = some (waitI t id, t) := by
  obtain ⟨k, rfl⟩ : ∃ m, k = m + 5 := ⟨k - 5, by omega⟩
  have h0 := hs 0 (by omega); have h1 := hs 1 (by omega); have h2 := hs 2 (by omega); have h3 := hs 3 (by omega)
  obtain ⟨t0, t1, t2, t3, t4, t5, t6, t7⟩ := t
  simp only [row] at h0 h1 h2 h3
  have e0 := contains_f t1 id (k + 4) (by omega) (by omega)
  have e1 := contains_f t3 id (k + 3) (by omega) (by omega)
  have e2 := contains_f t5 id (k + 2) (by omega) (by omega)
  have e3 := contains_f t7 id (k + 1) (by omega) (by omega)
  have w0 : wrap64 (0 + 1) = 1 := by decide +kernel
  have w1 : wrap64 (1 + 1) = 2 := by decide +kernel
  have w2 : wrap64 (2 + 1) = 3 := by decide +kernel
  have w3 : wrap64 (3 + 1) = 4 := by decide +kernel
  unfold object_Objects_waits.f waitI
  simp only [row]
  rw [show k + 5 = (k + 4) + 1 from rfl, object_Objects_waits.l0, if_neg (by omega), if_pos (by omega), if_pos (by omega), if_pos rfl, e0, bind_some']
  by_cases c0 : t1.contains id = true
  · rw [if_pos c0, if_pos c0]
  · rw [if_neg c0, if_neg c0, w0, show k + 4 = (k + 3) + 1 from rfl, object_Objects_waits.l0, if_neg (by omega), if_pos (by omega), if_pos (by omega), if_neg (by omega), if_pos rfl, e1, bind_some']
    by_cases c1 : t3.contains id = true
    · rw [if_pos c1, if_pos c1]
    · rw [if_neg c1, if_neg c1, w1, show k + 3 = (k + 2) + 1 from rfl, object_Objects_waits.l0, if_neg (by omega), if_pos (by omega), if_pos (by omega), if_neg (by omega), if_neg (by omega), if_pos rfl, e2, bind_some']
      by_cases c2 : t5.contains id = true
      · rw [if_pos c2, if_pos c2]
      · rw [if_neg c2, if_neg c2, w2, show k + 2 = (k + 1) + 1 from rfl, object_Objects_waits.l0, if_neg (by omega), if_pos (by omega), if_pos (by omega), if_neg (by omega), if_neg (by omega), if_neg (by omega), if_pos rfl, e3, bind_some']
        by_cases c3 : t7.contains id = true
        · rw [if_pos c3, if_pos c3]
        · rw [if_neg c3, if_neg c3, w3, object_Objects_waits.l0, if_pos rfl]
theorem is_f (o : Int) : object_is.f o = some (decide (0 ≤ o) && decide (o < 4)) := by
  unfold object_is.f; by_cases h : o ≥ 0 <;> simp [h] <;> omega
theorem is_in (o : Nat) (h : o < 4) : object_is.f (o : Int) = some true := by rw [is_f, decide_eq_true (by omega), decide_eq_true (by omega)]; rfl
theorem is_out (o : Int) (h : ¬ (0 ≤ o ∧ o < 4)) : object_is.f o = some false := by
  rw [is_f]; congr 1; rw [Bool.and_eq_false_iff, decide_eq_false_iff_not, decide_eq_false_iff_not]; omega
/-- Waiting for an object that there is. -/
def waitS (t : St) (id : Int) (o : Nat) : Bool × Option Int × St :=
  if waitI t id ≥ 0 then (false, some 20, t) else if cnt t o > 0 then (true, none, setC t o (wrap64 (cnt t o - 1))) else (false, none, setR t o (row t o ++ [id]))
theorem wait_f (t : St) (id : Int) (o : Nat) (ho : o < 4) (n k : Nat) (hs : Short n t) (hn : n < 1000000000) (hk : n + 6 ≤ k) :
    object_Objects_Wait.f k t.1 t.2.1 t.2.2.1 t.2.2.2.1 t.2.2.2.2.1 t.2.2.2.2.2.1 t.2.2.2.2.2.2.1 t.2.2.2.2.2.2.2 id (o : Int) = some (waitS t id o) := by
  have hl := hs o ho
  unfold object_Objects_Wait.f waitS
  rw [is_in o ho, bind_some', if_pos rfl, waits_f t id n k hs hn hk, bind_some']
  by_cases c : waitI t id ≥ 0
  · rw [if_pos c, if_pos c]
  · rw [if_neg c, if_neg c, if_pos (by omega), if_pos (by omega)]
    rcases lt4 ho with rfl | rfl | rfl | rfl
    · rw [if_pos (by omega)]
      simp only [cnt, row] at hl ⊢
      split
      · rfl
      · rw [if_pos (by omega)]; rfl
    · rw [if_neg (by omega), if_pos (by omega)]
      simp only [cnt, row] at hl ⊢
      split
      · rfl
      · rw [if_pos (by omega)]; rfl
    · rw [if_neg (by omega), if_neg (by omega), if_pos (by omega)]
      simp only [cnt, row] at hl ⊢
      split
      · rfl
      · rw [if_pos (by omega)]; rfl
    · rw [if_neg (by omega), if_neg (by omega), if_neg (by omega), if_pos (by omega)]
      simp only [cnt, row] at hl ⊢
      split
      · rfl
      · rw [if_pos (by omega)]; rfl
theorem wait_out (t : St) (id o : Int) (ho : ¬ (0 ≤ o ∧ o < 4)) (k : Nat) :
    object_Objects_Wait.f k t.1 t.2.1 t.2.2.1 t.2.2.2.1 t.2.2.2.2.1 t.2.2.2.2.2.1 t.2.2.2.2.2.2.1 t.2.2.2.2.2.2.2 id o = some (false, some 10, t) := by
  unfold object_Objects_Wait.f
  rw [is_out o ho, bind_some', if_neg (by decide)]
/-- A signal to an object that there is. -/
def signalS (t : St) (o : Nat) : Int × Bool × Option Int × St := match row t o with
  | [] => (0, false, none, setC t o (mn (wrap64 (cnt t o + 1)) 255))
  | x :: l => (x, true, none, setR t o l)
theorem del_f (x : Int) (l : List Int) : ext_40.f (x :: l) 0 1 = some l := by
  unfold ext_40.f
  rw [if_pos (by rw [List.length_cons]; omega)]; simp
theorem signal_f (t : St) (o : Nat) (ho : o < 4) :
    object_Objects_Signal.f t.1 t.2.1 t.2.2.1 t.2.2.2.1 t.2.2.2.2.1 t.2.2.2.2.2.1 t.2.2.2.2.2.2.1 t.2.2.2.2.2.2.2 (o : Int) = some (signalS t o) := by
  have go : ∀ (l : List Int) (A : Int × Bool × Option Int × St) (B : List Int → Int → Int × Bool × Option Int × St), (if (l.length : Int) = 0 then some A else if 0 < (l.length : Int) then (ext_40.f l 0 1).bind (fun m => some (B m (rd l 0))) else none) = some (match l with | [] => A | x :: l => B l x) := by
    intro l A B
    cases l with
    | nil => rfl
    | cons x l =>
      rw [if_neg (by rw [List.length_cons]; omega), if_pos (by rw [List.length_cons]; omega), del_f, bind_some']
      rfl
  unfold object_Objects_Signal.f signalS
  rw [is_in o ho, bind_some', if_pos rfl, if_pos (by omega), if_pos (by omega)]
  rcases lt4 ho with rfl | rfl | rfl | rfl
  · rw [if_pos (by omega)]; exact go t.2.1 _ (fun m x => (x, true, none, setR t 0 m))
  · rw [if_neg (by omega), if_pos (by omega)]; exact go t.2.2.2.1 _ (fun m x => (x, true, none, setR t 1 m))
  · rw [if_neg (by omega), if_neg (by omega), if_pos (by omega)]; exact go t.2.2.2.2.2.1 _ (fun m x => (x, true, none, setR t 2 m))
  · rw [if_neg (by omega), if_neg (by omega), if_neg (by omega), if_pos (by omega)]; exact go t.2.2.2.2.2.2.2 _ (fun m x => (x, true, none, setR t 3 m))
theorem signal_out (t : St) (o : Int) (ho : ¬ (0 ≤ o ∧ o < 4)) :
    object_Objects_Signal.f t.1 t.2.1 t.2.2.1 t.2.2.2.1 t.2.2.2.2.1 t.2.2.2.2.2.1 t.2.2.2.2.2.2.1 t.2.2.2.2.2.2.2 o = some (0, false, some 10, t) := by
  unfold object_Objects_Signal.f
  rw [is_out o ho, bind_some', if_neg (by decide)]
theorem count_f (t : St) (o : Nat) (ho : o < 4) :
    object_Objects_Count.f t.1 t.2.1 t.2.2.1 t.2.2.2.1 t.2.2.2.2.1 t.2.2.2.2.2.1 t.2.2.2.2.2.2.1 t.2.2.2.2.2.2.2 (o : Int) = some (cnt t o, t) := by
  unfold object_Objects_Count.f
  rw [is_in o ho, bind_some', if_pos rfl, if_pos (by omega), if_pos (by omega)]
  rcases lt4 ho with rfl | rfl | rfl | rfl
  · rw [if_pos (by omega)]; rfl
  · rw [if_neg (by omega), if_pos (by omega)]; rfl
  · rw [if_neg (by omega), if_neg (by omega), if_pos (by omega)]; rfl
  · rw [if_neg (by omega), if_neg (by omega), if_neg (by omega), if_pos (by omega)]; rfl
theorem count_out (t : St) (o : Int) (ho : ¬ (0 ≤ o ∧ o < 4)) :
    object_Objects_Count.f t.1 t.2.1 t.2.2.1 t.2.2.2.1 t.2.2.2.2.1 t.2.2.2.2.2.1 t.2.2.2.2.2.2.1 t.2.2.2.2.2.2.2 o = some (0, t) := by
  unfold object_Objects_Count.f
  rw [is_out o ho, bind_some', if_neg (by decide)]
theorem clone_f (l : List Int) (h : l.length < 1000000000) : ext_43.f l = some l := by
  unfold ext_43.f; rw [if_pos (by omega)]
theorem row_f (t : St) (o : Nat) (ho : o < 4) (n : Nat) (hs : Short n t) (hn : n < 1000000000) :
    object_Objects_Row.f t.1 t.2.1 t.2.2.1 t.2.2.2.1 t.2.2.2.2.1 t.2.2.2.2.2.1 t.2.2.2.2.2.2.1 t.2.2.2.2.2.2.2 (o : Int) = some (row t o, t) := by
  have hl := hs o ho
  unfold object_Objects_Row.f
  rw [is_in o ho, bind_some', if_pos rfl, if_pos (by omega), if_pos (by omega)]
  rcases lt4 ho with rfl | rfl | rfl | rfl
  · rw [if_pos (by omega), clone_f (t.2.1) (Nat.lt_of_le_of_lt hl hn), bind_some']; rfl
  · rw [if_neg (by omega), if_pos (by omega), clone_f (t.2.2.2.1) (Nat.lt_of_le_of_lt hl hn), bind_some']; rfl
  · rw [if_neg (by omega), if_neg (by omega), if_pos (by omega), clone_f (t.2.2.2.2.2.1) (Nat.lt_of_le_of_lt hl hn), bind_some']; rfl
  · rw [if_neg (by omega), if_neg (by omega), if_neg (by omega), if_pos (by omega), clone_f (t.2.2.2.2.2.2.2) (Nat.lt_of_le_of_lt hl hn), bind_some']; rfl
theorem row_out (t : St) (o : Int) (ho : ¬ (0 ≤ o ∧ o < 4)) :
    object_Objects_Row.f t.1 t.2.1 t.2.2.1 t.2.2.2.1 t.2.2.2.2.1 t.2.2.2.2.2.1 t.2.2.2.2.2.2.1 t.2.2.2.2.2.2.2 o = some ([], t) := by
  unfold object_Objects_Row.f
  rw [is_out o ho, bind_some', if_neg (by decide)]
/-- Who waits no more. -/
def dropS (t : St) (id : Int) : Bool × St := if waitI t id < 0 then (false, t) else (true, setR t (waitI t id).toNat ((row t (waitI t id).toNat).filter (fun z => !(z == id))))
theorem contains_pos {l : List Int} {x : Int} (h : l.contains x = true) : 0 < l.length := by
  cases l with
  | nil => cases h
  | cons y l => simp
theorem drop_f (t : St) (id : Int) (n k : Nat) (hs : Short n t) (hn : n < 1000000000) (hk : n + 6 ≤ k) :
    ext_27.f k t.1 t.2.1 t.2.2.1 t.2.2.2.1 t.2.2.2.2.1 t.2.2.2.2.2.1 t.2.2.2.2.2.2.1 t.2.2.2.2.2.2.2 id = some (dropS t id) := by
  unfold ext_27.f
  rw [waits_f t id n k hs hn hk, bind_some']
  unfold ext_27.g dropS waitI
  by_cases c0 : (row t 0).contains id = true
  · rw [if_pos c0, if_neg (by omega), if_pos rfl]; dsimp only; rw [if_pos (show 0 < (t.2.1).length from contains_pos c0), if_neg (by omega)]; rfl
  · rw [if_neg c0]
    by_cases c1 : (row t 1).contains id = true
    · rw [if_pos c1, if_neg (by omega), if_neg (by omega), if_pos rfl]; dsimp only; rw [if_pos (show 0 < (t.2.2.2.1).length from contains_pos c1), if_neg (by omega)]; rfl
    · rw [if_neg c1]
      by_cases c2 : (row t 2).contains id = true
      · rw [if_pos c2, if_neg (by omega), if_neg (by omega), if_neg (by omega), if_pos rfl]; dsimp only; rw [if_pos (show 0 < (t.2.2.2.2.2.1).length from contains_pos c2), if_neg (by omega)]; rfl
      · rw [if_neg c2]
        by_cases c3 : (row t 3).contains id = true
        · rw [if_pos c3, if_neg (by omega), if_neg (by omega), if_neg (by omega), if_neg (by omega), if_pos rfl]; dsimp only; rw [if_pos (show 0 < (t.2.2.2.2.2.2.2).length from contains_pos c3), if_neg (by omega)]; rfl
        · rw [if_neg c3, if_pos (by omega), if_pos (by omega)]
theorem known_f (k : Nat) : tontinelaw9_known.f (k + 16) = some true := by
  induction k with
  | zero => decide +kernel
  | succ k ih => exact tontinelaw9_known.mono _ true ih
end Go.Proofs.YtiejhnijfgdapaaDoor.ObjR
