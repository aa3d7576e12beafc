/- Who waits first is woken first; a signal that nobody waits for lets one more go on, as many as may be counted: of fewer than forty who wait, fewer than four hundred signals, each object. -/
import Derived.Test.YtiejhnijfgdapaaPx9
import Derived.Test.YtiejhnijfgdapaaObjR
namespace Go.Proofs.Ytiejhnijfgdapaa.Pure
open Go Go.RowKit Go.Proofs.Ytiejhnijfgdapaa Go.Proofs.Ytiejhnijfgdapaa.P Go.Proofs.Ytiejhnijfgdapaa.ObjR Go.Proofs.YtiejhnijfgdapaaW.PrintWords Go.Proofs.YtiejhnijfgdapaaW.PrintLast Go.Proofs.YtiejhnijfgdapaaW.PrintMore
def Z : St := (0, [], 0, [], 0, [], 0, [])
theorem cnt_Z (i : Nat) (h : i < 4) : cnt Z i = 0 := by rcases lt4 h with rfl | rfl | rfl | rfl <;> rfl
theorem row_Z (i : Nat) (h : i < 4) : row Z i = [] := by rcases lt4 h with rfl | rfl | rfl | rfl <;> rfl
theorem waitI_R (o : Nat) (ho : o < 4) (l : List Int) (id : Int) (h : l.contains id = false) : waitI (setR Z o l) id = -1 := by
  have h' : ¬ l.contains id = true := by rw [h]; decide
  have e : ¬ ([] : List Int).contains id = true := by simp
  rcases lt4 ho with rfl | rfl | rfl | rfl
  · show (if l.contains id = true then (0 : Int) else if ([] : List Int).contains id = true then 1 else if ([] : List Int).contains id = true then 2 else if ([] : List Int).contains id = true then 3 else -1) = -1
    rw [if_neg h', if_neg e, if_neg e, if_neg e]
  · show (if ([] : List Int).contains id = true then (0 : Int) else if l.contains id = true then 1 else if ([] : List Int).contains id = true then 2 else if ([] : List Int).contains id = true then 3 else -1) = -1
    rw [if_neg e, if_neg h', if_neg e, if_neg e]
  · show (if ([] : List Int).contains id = true then (0 : Int) else if ([] : List Int).contains id = true then 1 else if l.contains id = true then 2 else if ([] : List Int).contains id = true then 3 else -1) = -1
    rw [if_neg e, if_neg e, if_neg h', if_neg e]
  · show (if ([] : List Int).contains id = true then (0 : Int) else if ([] : List Int).contains id = true then 1 else if ([] : List Int).contains id = true then 2 else if l.contains id = true then 3 else -1) = -1
    rw [if_neg e, if_neg e, if_neg e, if_neg h']
theorem waitI_C (o : Nat) (ho : o < 4) (v : Int) (id : Int) : waitI (setC Z o v) id = -1 := by
  rcases lt4 ho with rfl | rfl | rfl | rfl <;> rfl
def nums (i n : Nat) : List Int := (List.range' i n).map fun (z : Nat) => (z : Int)
theorem nums_len (i n : Nat) : (nums i n).length = n := by simp [nums]
theorem nums_not (i n : Nat) (x : Nat) (h : x < i ∨ i + n ≤ x) : (nums i n).contains (x : Int) = false := by
  rw [← Bool.not_eq_true, List.contains_iff_mem]
  intro hm
  obtain ⟨y, hy, e⟩ := List.mem_map.mp hm
  have := List.mem_range'_1.mp hy
  omega
theorem nums_snoc (n : Nat) : nums 0 n ++ [(n : Int)] = nums 0 (n + 1) := by
  unfold nums; rw [List.range'_concat, List.map_append]; simp
theorem nums_cons (i n : Nat) : nums i (n + 1) = (i : Int) :: nums (i + 1) n := by
  unfold nums; rw [List.range'_succ, List.map_cons]
theorem short_R (o : Nat) (ho : o < 4) (i n : Nat) (hn : n ≤ 1000) : Short 1000 (setR Z o (nums i n)) := fun j hj => by
  rw [row_setR Z ho hj]; split
  · rw [nums_len]; exact hn
  · rw [row_Z j hj]; exact Nat.zero_le _
theorem short_C (o : Nat) (ho : o < 4) (v : Int) : Short 1000 (setC Z o v) := fun j hj => by
  rw [row_setC Z o j ho hj, row_Z j hj]; exact Nat.zero_le _
theorem setR_setR (t : St) (o : Nat) (ho : o < 4) (l m : List Int) : setR (setR t o l) o m = setR t o m := by
  rcases lt4 ho with rfl | rfl | rfl | rfl <;> rfl
theorem setC_setC (t : St) (o : Nat) (ho : o < 4) (l m : Int) : setC (setC t o l) o m = setC t o m := by
  rcases lt4 ho with rfl | rfl | rfl | rfl <;> rfl
theorem Z_R (o : Nat) (ho : o < 4) : setR Z o [] = Z := by rcases lt4 ho with rfl | rfl | rfl | rfl <;> rfl
theorem Z_C (o : Nat) (ho : o < 4) : setC Z o 0 = Z := by rcases lt4 ho with rfl | rfl | rfl | rfl <;> rfl
/-- What stands behind i signals. -/
def sg (o k i : Nat) : St := if i ≤ k then setR Z o (nums i (k - i)) else setC Z o ((min (i - k) 255 : Nat) : Int)
theorem sg_step (o k i : Nat) (ho : o < 4) : signalS (sg o k i) o = if i < k then ((i : Int), true, none, sg o k (i + 1)) else (0, false, none, sg o k (i + 1)) := by
  unfold sg
  by_cases c : i < k
  · rw [if_pos (by omega), if_pos c, if_pos (by omega)]
    unfold signalS
    rw [row_setR Z ho ho, if_pos rfl, show k - i = (k - (i + 1)) + 1 by omega, nums_cons]
    simp only []
    rw [setR_setR Z o ho]
  · rw [if_neg c, if_neg (show ¬ i + 1 ≤ k by omega)]
    have key : ∀ n : Nat, n ≤ 255 → signalS (setC Z o (n : Int)) o = (0, false, none, setC Z o ((min (n + 1) 255 : Nat) : Int)) := by
      intro n hn
      unfold signalS
      rw [row_setC Z o o ho ho, row_Z o ho]
      simp only []
      rw [cnt_setC Z ho ho, if_pos rfl, setC_setC Z o ho, succw n (by omega)]
      have : mn ((n + 1 : Nat) : Int) 255 = ((min (n + 1) 255 : Nat) : Int) := by unfold mn; split <;> omega
      rw [this]
    by_cases c2 : i = k
    · subst c2
      rw [if_pos (Nat.le_refl _), Nat.sub_self, show nums i 0 = [] from rfl, Z_R o ho]
      have := key 0 (by omega)
      rw [show ((0 : Nat) : Int) = 0 from rfl, Z_C o ho] at this
      rw [this]
      congr 5
      omega
    · rw [if_neg (show ¬ i ≤ k by omega), key _ (by omega)]
      congr 5
      omega
theorem order_l1 (o k j : Nat) (ho : o < 4) (hk : k < 40) (hj : j < 400) : ∀ (d i q : Nat), i + d = j → 2 * d + 1100 ≤ q →
    tontinelaw9_ObjectOrder.l1 q (k : Int) (j : Int) (o : Int) (i : Int) (sg o k i).1 (sg o k i).2.1 (sg o k i).2.2.1 (sg o k i).2.2.2.1 (sg o k i).2.2.2.2.1 (sg o k i).2.2.2.2.2.1 (sg o k i).2.2.2.2.2.2.1 (sg o k i).2.2.2.2.2.2.2 = some true := by
  intro d
  induction d with
  | zero =>
    intro i q hi hq
    obtain ⟨q, rfl⟩ : ∃ m, q = m + 1 := ⟨q - 1, by omega⟩
    obtain rfl : i = j := by omega
    have hs : Short 1000 (sg o k i) := by unfold sg; split; exact short_R o ho _ _ (by omega); exact short_C o ho _
    rw [tontinelaw9_ObjectOrder.l1, if_neg (by omega), count_f _ o ho, bind_some']
    dsimp only
    have w1 : wrap64 ((i : Int) - (k : Int)) = (i : Int) - (k : Int) := wrap_in (by omega) (by omega)
    have w2 : wrap64 ((k : Int) - (i : Int)) = (k : Int) - (i : Int) := wrap_in (by omega) (by omega)
    have hc : cnt (sg o k i) o = mn (mx 0 (wrap64 ((i : Int) - (k : Int)))) 255 := by
      rw [w1]; clear w1 w2
      unfold sg; split
      · rw [cnt_setR Z o o ho ho, cnt_Z o ho]; unfold mn mx; (repeat' split) <;> omega
      · rw [cnt_setC Z ho ho, if_pos rfl]; unfold mn mx; (repeat' split) <;> omega
    have hr : ((row (sg o k i) o).length : Int) = mx 0 (wrap64 ((k : Int) - (i : Int))) := by
      rw [w2]; clear w1 w2 hc
      unfold sg; split
      · rw [row_setR Z ho ho, if_pos rfl, nums_len]; unfold mx; split <;> omega
      · rw [row_setC Z o o ho ho, row_Z o ho]; unfold mx; simp; omega
    have hw : waitI (sg o k i) 1000 = -1 := by
      unfold sg; split
      · exact waitI_R o ho _ _ (nums_not i (k - i) 1000 (by omega))
      · exact waitI_C o ho _ _
    have hcp : (cnt (sg o k i) o > 0) ↔ ((i : Int) > (k : Int)) := by
      clear hc hr hw w1 w2
      unfold sg; split
      · rw [cnt_setR Z o o ho ho, cnt_Z o ho]; omega
      · rw [cnt_setC Z ho ho, if_pos rfl]; omega
    rw [if_pos hc, row_f _ o ho 1000 hs (by omega), bind_some']
    dsimp only
    rw [if_pos hr, wait_f _ 1000 o ho 1000 q hs (by omega) (by omega), bind_some']
    by_cases c : cnt (sg o k i) o > 0
    · have e : waitS (sg o k i) 1000 o = (true, none, setC (sg o k i) o (wrap64 (cnt (sg o k i) o - 1))) := by unfold waitS; rw [hw, if_neg (by decide), if_pos c]
      rw [e]
      dsimp only
      rw [if_pos (show (none : Option Int).isNone = true from rfl), decide_eq_true (hcp.mp c)]; rfl
    · have e : waitS (sg o k i) 1000 o = (false, none, setR (sg o k i) o (row (sg o k i) o ++ [1000])) := by unfold waitS; rw [hw, if_neg (by decide), if_neg c]
      rw [e]
      dsimp only
      rw [if_pos (show (none : Option Int).isNone = true from rfl), decide_eq_false (fun h => c (hcp.mpr h))]; rfl
  | succ d ih =>
    intro i q hi hq
    obtain ⟨q, rfl⟩ : ∃ m, q = m + 2 := ⟨q - 2, by omega⟩
    have h := ih (i + 1) q (by omega) (by omega)
    have w := succw i (by omega)
    have j3 : ∀ t : St, tontinelaw9_ObjectOrder.j3 (q + 1) (k : Int) (j : Int) (o : Int) (i : Int) false t.1 t.2.1 t.2.2.1 t.2.2.2.1 t.2.2.2.2.1 t.2.2.2.2.2.1 t.2.2.2.2.2.2.1 t.2.2.2.2.2.2.2 = tontinelaw9_ObjectOrder.l1 q (k : Int) (j : Int) (o : Int) ((i + 1 : Nat) : Int) t.1 t.2.1 t.2.2.1 t.2.2.2.1 t.2.2.2.2.1 t.2.2.2.2.2.1 t.2.2.2.2.2.2.1 t.2.2.2.2.2.2.2 := fun t => by
      rw [tontinelaw9_ObjectOrder.j3, if_neg (by decide), w]
    rw [show q + 2 = (q + 1) + 1 from rfl, tontinelaw9_ObjectOrder.l1, if_pos (by omega), signal_f _ o ho, bind_some', sg_step o k i ho]
    by_cases c : i < k
    · rw [if_pos c]
      dsimp only
      rw [if_pos (show (none : Option Int).isNone = true from rfl), decide_eq_true (show (i : Int) < (k : Int) by omega), if_neg (by decide), if_pos rfl, show ((i : Int) != (i : Int)) = false by simp]
      exact (j3 _).trans h
    · rw [if_neg c]
      dsimp only
      rw [if_pos (show (none : Option Int).isNone = true from rfl), decide_eq_false (show ¬ (i : Int) < (k : Int) by omega), if_neg (by decide), if_neg (by decide)]
      exact (j3 _).trans h
theorem order_l0 (o k j : Nat) (ho : o < 4) (hk : k < 40) (hj : j < 400) : ∀ (d i q : Nat), i + d = k → 2 * d + 2000 ≤ q →
    tontinelaw9_ObjectOrder.l0 q (k : Int) (j : Int) (o : Int) (i : Int) (setR Z o (nums 0 i)).1 (setR Z o (nums 0 i)).2.1 (setR Z o (nums 0 i)).2.2.1 (setR Z o (nums 0 i)).2.2.2.1 (setR Z o (nums 0 i)).2.2.2.2.1 (setR Z o (nums 0 i)).2.2.2.2.2.1 (setR Z o (nums 0 i)).2.2.2.2.2.2.1 (setR Z o (nums 0 i)).2.2.2.2.2.2.2 = some true := by
  intro d
  induction d with
  | zero =>
    intro i q hi hq
    obtain ⟨q, rfl⟩ : ∃ m, q = m + 1 := ⟨q - 1, by omega⟩
    obtain rfl : i = k := by omega
    have h := order_l1 o i j ho hk hj j 0 q (by omega) (by omega)
    rw [show sg o i 0 = setR Z o (nums 0 i) by unfold sg; rw [if_pos (Nat.zero_le _)]; rfl] at h
    rw [tontinelaw9_ObjectOrder.l0, if_neg (by omega)]
    exact h
  | succ d ih =>
    intro i q hi hq
    obtain ⟨q, rfl⟩ : ∃ m, q = m + 2 := ⟨q - 2, by omega⟩
    have h := ih (i + 1) q (by omega) (by omega)
    have w := succw i (by omega)
    have hs : Short 1000 (setR Z o (nums 0 i)) := short_R o ho _ _ (by omega)
    have hw : waitI (setR Z o (nums 0 i)) (i : Int) = -1 := waitI_R o ho _ _ (nums_not 0 i i (by omega))
    have hc : ¬ cnt (setR Z o (nums 0 i)) o > 0 := by rw [cnt_setR Z o o ho ho, cnt_Z o ho]; omega
    have j1 : ∀ t : St, tontinelaw9_ObjectOrder.j1 (q + 1) (k : Int) (j : Int) (o : Int) (i : Int) false t.1 t.2.1 t.2.2.1 t.2.2.2.1 t.2.2.2.2.1 t.2.2.2.2.2.1 t.2.2.2.2.2.2.1 t.2.2.2.2.2.2.2 = tontinelaw9_ObjectOrder.l0 q (k : Int) (j : Int) (o : Int) ((i + 1 : Nat) : Int) t.1 t.2.1 t.2.2.1 t.2.2.2.1 t.2.2.2.2.1 t.2.2.2.2.2.1 t.2.2.2.2.2.2.1 t.2.2.2.2.2.2.2 := fun t => by
      rw [tontinelaw9_ObjectOrder.j1, if_neg (by decide), w]
    rw [show q + 2 = (q + 1) + 1 from rfl, tontinelaw9_ObjectOrder.l0, if_pos (by omega), wait_f _ (i : Int) o ho 1000 (q + 1) hs (by omega) (by omega), bind_some']
    have e : waitS (setR Z o (nums 0 i)) (i : Int) o = (false, none, setR (setR Z o (nums 0 i)) o (row (setR Z o (nums 0 i)) o ++ [(i : Int)])) := by unfold waitS; rw [hw, if_neg (by decide), if_neg hc]
    rw [e]
    dsimp only
    rw [if_neg (by decide), if_pos (show (none : Option Int).isNone = true from rfl), row_setR Z ho ho, if_pos rfl, setR_setR Z o ho, nums_snoc]
    exact (j1 _).trans h
theorem ObjectOrder : ∀ (x0 : Int) (x1 : Int) (x2 : Int), (0 ≤ x0 ∧ x0 ≤ 255) → (0 ≤ x1 ∧ x1 ≤ 65535) → (0 ≤ x2 ∧ x2 ≤ 255) → ∃ k, tontinelaw9_ObjectOrder.f k x0 x1 x2 = some true := by
  intro a b c ha hb hc
  refine ⟨3000, ?_⟩
  have md : ∀ (x : Int) (n : Nat), 0 ≤ x → x ≤ 65535 → 0 < n → wrap64 (Int.tmod x (n : Int)) = ((x.toNat % n : Nat) : Int) := by
    intro x n h0 h1 hn
    have hl : x.toNat % n ≤ x.toNat := Nat.mod_le _ _
    rw [Int.tmod_eq_emod_of_nonneg h0, show x % (n : Int) = ((x.toNat % n : Nat) : Int) by rw [Int.natCast_emod, Int.toNat_of_nonneg h0]]
    exact wrap_in (by omega) (by omega)
  have m1 := md a 40 ha.1 (by omega) (by omega)
  have m2 := md b 400 hb.1 (by omega) (by omega)
  have m3 := md c 4 hc.1 (by omega) (by omega)
  unfold tontinelaw9_ObjectOrder.f
  rw [show (3000 : Nat) = 2984 + 16 from rfl, known_f, bind_some', if_pos rfl, object_New.f, bind_some']
  rw [show wrap64 (Int.tmod a 40) = _ from m1, show wrap64 (Int.tmod b 400) = _ from m2, show wrap64 (Int.tmod c 4) = _ from m3]
  have ho : c.toNat % 4 < 4 := Nat.mod_lt _ (by omega)
  have h := order_l0 (c.toNat % 4) (a.toNat % 40) (b.toNat % 400) ho (Nat.mod_lt _ (by omega)) (Nat.mod_lt _ (by omega)) (a.toNat % 40) 0 3000 (by omega) (by omega)
  rw [show nums 0 0 = [] from rfl, Z_R _ ho] at h
  exact h
end Go.Proofs.Ytiejhnijfgdapaa.Pure
