/- What becomes of one object changes nothing of the others; nobody waits where a signal is counted: of at most sixty steps, each object. -/
import Derived.Test.YtiejhnijfgdapaaPx9
import Derived.Test.YtiejhnijfgdapaaObjR
import Derived.Test.YtiejhnijfgdapaaRd
namespace Go.Proofs.Ytiejhnijfgdapaa.Pure
open Go Go.RowKit Go.Proofs.Ytiejhnijfgdapaa Go.Proofs.Ytiejhnijfgdapaa.P Go.Proofs.Ytiejhnijfgdapaa.ObjR Go.Proofs.YtiejhnijfgdapaaW.PrintWords Go.Proofs.YtiejhnijfgdapaaW.PrintLast Go.Proofs.YtiejhnijfgdapaaW.PrintMore
/-- What holds of the object x in a state of at most n who wait. -/
structure Inv (t : St) (x n : Nat) : Prop where
  short : Short n t
  lo : 0 ≤ cnt t x
  hi : cnt t x ≤ 255
  none_ : cnt t x > 0 → row t x = []
/-- Nothing of the others is changed. -/
def Others (t u : St) (x : Nat) : Prop := ∀ j, j < 4 → j ≠ x → cnt u j = cnt t j ∧ (row u j).length = (row t j).length
section
variable (l : List S59) (x : Nat) (hx : x < 4) (i : Int)
theorem l2_step (t u : St) (n : Nat) (hs : Short n u) (hn : n < 1000000) (h : Others t u x) (j : Nat) (hj : j < 4) (k : Nat) :
    tontinelaw9_ObjectApart.l2 (k + 1) l (x : Int) i (j : Int) u.1 u.2.1 u.2.2.1 u.2.2.2.1 u.2.2.2.2.1 u.2.2.2.2.2.1 u.2.2.2.2.2.2.1 u.2.2.2.2.2.2.2 (cnt t 0) (cnt t 1) (cnt t 2) (cnt t 3) ((row t 0).length : Int) ((row t 1).length : Int) ((row t 2).length : Int) ((row t 3).length : Int)
      = tontinelaw9_ObjectApart.l2 k l (x : Int) i ((j + 1 : Nat) : Int) u.1 u.2.1 u.2.2.1 u.2.2.2.1 u.2.2.2.2.1 u.2.2.2.2.2.1 u.2.2.2.2.2.2.1 u.2.2.2.2.2.2.2 (cnt t 0) (cnt t 1) (cnt t 2) (cnt t 3) ((row t 0).length : Int) ((row t 1).length : Int) ((row t 2).length : Int) ((row t 3).length : Int) := by
  have w := succw j (by omega)
  rw [tontinelaw9_ObjectApart.l2, if_pos (by omega), w]
  by_cases c : j = x
  · rw [if_pos (by omega)]
  · have g := h j hj c
    rw [if_neg (by omega), count_f u j hj, bind_some']
    dsimp only
    rw [if_pos (by omega)]
    rcases lt4 hj with rfl | rfl | rfl | rfl
    · rw [if_pos (by omega), if_pos g.1, row_f u _ hj n hs (by omega), bind_some']; dsimp only; rw [if_pos (by rw [g.2])]
    · rw [if_neg (by omega), if_pos (by omega), if_pos g.1, row_f u _ hj n hs (by omega), bind_some']; dsimp only; rw [if_pos (by rw [g.2])]
    · rw [if_neg (by omega), if_neg (by omega), if_pos (by omega), if_pos g.1, row_f u _ hj n hs (by omega), bind_some']; dsimp only; rw [if_pos (by rw [g.2])]
    · rw [if_neg (by omega), if_neg (by omega), if_neg (by omega), if_pos (by omega), if_pos g.1, row_f u _ hj n hs (by omega), bind_some']; dsimp only; rw [if_pos (by rw [g.2])]
include hx in
theorem l2_end (u : St) (n : Nat) (hI : Inv u x n) (hn : n < 1000000) (c0 c1 c2 c3 r0 r1 r2 r3 : Int) (k : Nat) :
    tontinelaw9_ObjectApart.l2 (k + 1) l (x : Int) i 4 u.1 u.2.1 u.2.2.1 u.2.2.2.1 u.2.2.2.2.1 u.2.2.2.2.2.1 u.2.2.2.2.2.2.1 u.2.2.2.2.2.2.2 c0 c1 c2 c3 r0 r1 r2 r3
      = tontinelaw9_ObjectApart.l0 k l (x : Int) (wrap64 (i + 1)) u.1 u.2.1 u.2.2.1 u.2.2.2.1 u.2.2.2.2.1 u.2.2.2.2.2.1 u.2.2.2.2.2.2.1 u.2.2.2.2.2.2.2 := by
  rw [tontinelaw9_ObjectApart.l2, if_neg (by omega), count_f u x hx, bind_some']
  dsimp only
  by_cases c : cnt u x > 0
  · rw [if_pos c, row_f u x hx n hI.short (by omega), bind_some']
    dsimp only
    rw [if_neg (by rw [hI.none_ c]; simp)]
  · rw [if_neg c]
include hx in
theorem l2_all (t u : St) (n : Nat) (hI : Inv u x n) (hn : n < 1000000) (h : Others t u x) (k : Nat) :
    tontinelaw9_ObjectApart.l2 (k + 5) l (x : Int) i 0 u.1 u.2.1 u.2.2.1 u.2.2.2.1 u.2.2.2.2.1 u.2.2.2.2.2.1 u.2.2.2.2.2.2.1 u.2.2.2.2.2.2.2 (cnt t 0) (cnt t 1) (cnt t 2) (cnt t 3) ((row t 0).length : Int) ((row t 1).length : Int) ((row t 2).length : Int) ((row t 3).length : Int)
      = tontinelaw9_ObjectApart.l0 k l (x : Int) (wrap64 (i + 1)) u.1 u.2.1 u.2.2.1 u.2.2.2.1 u.2.2.2.2.1 u.2.2.2.2.2.1 u.2.2.2.2.2.2.1 u.2.2.2.2.2.2.2 :=
  (l2_step l x i t u n hI.short hn h 0 (by omega) (k + 4)).trans <| (l2_step l x i t u n hI.short hn h 1 (by omega) (k + 3)).trans <| (l2_step l x i t u n hI.short hn h 2 (by omega) (k + 2)).trans <|
    (l2_step l x i t u n hI.short hn h 3 (by omega) (k + 1)).trans <| l2_end l x hx i u n hI hn _ _ _ _ _ _ _ _ k
theorem l1_step (t : St) (n : Nat) (hs : Short n t) (hn : n < 1000000) (s0 s1 s2 c0 c1 c2 c3 r0 r1 r2 r3 : Int) (k : Nat) :
    tontinelaw9_ObjectApart.l1 (k + 4) l (x : Int) i 0 t.1 t.2.1 t.2.2.1 t.2.2.2.1 t.2.2.2.2.1 t.2.2.2.2.2.1 t.2.2.2.2.2.2.1 t.2.2.2.2.2.2.2 s0 s1 s2 c0 c1 c2 c3 r0 r1 r2 r3
      = tontinelaw9_ObjectApart.l1 k l (x : Int) i 4 t.1 t.2.1 t.2.2.1 t.2.2.2.1 t.2.2.2.2.1 t.2.2.2.2.2.1 t.2.2.2.2.2.2.1 t.2.2.2.2.2.2.2 s0 s1 s2 (cnt t 0) (cnt t 1) (cnt t 2) (cnt t 3) ((row t 0).length : Int) ((row t 1).length : Int) ((row t 2).length : Int) ((row t 3).length : Int) := by
  have a0 := count_f t 0 (by omega); have a1 := count_f t 1 (by omega); have a2 := count_f t 2 (by omega); have a3 := count_f t 3 (by omega)
  have b0 := row_f t 0 (by omega) n hs (by omega); have b1 := row_f t 1 (by omega) n hs (by omega); have b2 := row_f t 2 (by omega) n hs (by omega); have b3 := row_f t 3 (by omega) n hs (by omega)
  rw [show ((0 : Nat) : Int) = 0 from rfl] at a0 b0
  rw [show ((1 : Nat) : Int) = 1 from rfl] at a1 b1
  rw [show ((2 : Nat) : Int) = 2 from rfl] at a2 b2
  rw [show ((3 : Nat) : Int) = 3 from rfl] at a3 b3
  have w0 : wrap64 (0 + 1) = 1 := by decide +kernel
  have w1 : wrap64 (1 + 1) = 2 := by decide +kernel
  have w2 : wrap64 (2 + 1) = 3 := by decide +kernel
  have w3 : wrap64 (3 + 1) = 4 := by decide +kernel
  rw [show k + 4 = (k + 3) + 1 from rfl, tontinelaw9_ObjectApart.l1, if_pos (by decide), a0, bind_some']; dsimp only; rw [b0, bind_some']; dsimp only; rw [if_pos (by decide), if_pos (by decide), w0]
  rw [show k + 3 = (k + 2) + 1 from rfl, tontinelaw9_ObjectApart.l1, if_pos (by decide), a1, bind_some']; dsimp only; rw [b1, bind_some']; dsimp only; rw [if_pos (by decide), if_neg (by decide), if_pos (by decide), w1]
  rw [show k + 2 = (k + 1) + 1 from rfl, tontinelaw9_ObjectApart.l1, if_pos (by decide), a2, bind_some']; dsimp only; rw [b2, bind_some']; dsimp only; rw [if_pos (by decide), if_neg (by decide), if_neg (by decide), if_pos (by decide), w2]
  rw [tontinelaw9_ObjectApart.l1, if_pos (by decide), a3, bind_some']; dsimp only; rw [b3, bind_some']; dsimp only; rw [if_pos (by decide), if_neg (by decide), if_neg (by decide), if_neg (by decide), if_pos (by decide), w3]
end
theorem short_up {t : St} {n m : Nat} (h : Short n t) (hm : n ≤ m) : Short m t := fun i hi => Nat.le_trans (h i hi) hm
theorem inv_wait (t : St) (x n : Nat) (hx : x < 4) (h : Inv t x n) (id : Int) : Inv (waitS t id x).2.2 x (n + 1) ∧ Others t (waitS t id x).2.2 x := by
  unfold waitS
  split
  · exact ⟨⟨short_up h.short (by omega), h.lo, h.hi, h.none_⟩, fun _ _ _ => ⟨rfl, rfl⟩⟩
  · split
    · rename_i h1 h2
      have w : wrap64 (cnt t x - 1) = cnt t x - 1 := wrap_in (by have := h.lo; omega) (by have := h.hi; omega)
      have e := cnt_setC t hx hx (wrap64 (cnt t x - 1))
      rw [if_pos rfl, w] at e
      dsimp only
      refine ⟨⟨fun j hj => by rw [row_setC t x j hx hj]; exact Nat.le_trans (h.short j hj) (by omega), ?_, ?_, fun _ => by rw [row_setC t x x hx hx]; exact h.none_ h2⟩, fun j hj hne => ⟨by rw [cnt_setC t hx hj, if_neg (fun q => hne q.symm)], by rw [row_setC t x j hx hj]⟩⟩
      · rw [w, e]; omega
      · rw [w, e]; have := h.hi; omega
    · rename_i h1 h2
      dsimp only
      refine ⟨⟨fun j hj => ?_, by rw [cnt_setR t x x hx hx]; exact h.lo, by rw [cnt_setR t x x hx hx]; exact h.hi, fun hc => by rw [cnt_setR t x x hx hx] at hc; exact absurd hc h2⟩, fun j hj hne => ⟨cnt_setR t x j hx hj _, by rw [row_setR t hx hj, if_neg (fun q => hne q.symm)]⟩⟩
      rw [row_setR t hx hj]
      split
      · rw [List.length_append]; have := h.short x hx; simp; omega
      · exact Nat.le_trans (h.short j hj) (by omega)
theorem inv_signal (t : St) (x n : Nat) (hx : x < 4) (h : Inv t x n) : Inv (signalS t x).2.2.2 x (n + 1) ∧ Others t (signalS t x).2.2.2 x := by
  unfold signalS
  cases hr : row t x with
  | nil =>
    dsimp only
    have e := cnt_setC t hx hx (mn (wrap64 (cnt t x + 1)) 255)
    rw [if_pos rfl] at e
    have w : wrap64 (cnt t x + 1) = cnt t x + 1 := wrap_in (by have := h.lo; omega) (by have := h.hi; omega)
    have b : 0 ≤ mn (cnt t x + 1) 255 ∧ mn (cnt t x + 1) 255 ≤ 255 := by have := h.lo; unfold mn; split <;> omega
    rw [w] at e
    refine ⟨⟨fun j hj => by rw [row_setC t x j hx hj]; exact Nat.le_trans (h.short j hj) (by omega), by rw [w, e]; exact b.1, by rw [w, e]; exact b.2, fun _ => by rw [row_setC t x x hx hx]; exact hr⟩, fun j hj hne => ⟨by rw [cnt_setC t hx hj, if_neg (fun q => hne q.symm)], by rw [row_setC t x j hx hj]⟩⟩
  | cons y m =>
    dsimp only
    refine ⟨⟨fun j hj => ?_, by rw [cnt_setR t x x hx hx]; exact h.lo, by rw [cnt_setR t x x hx hx]; exact h.hi, fun hc => by rw [cnt_setR t x x hx hx] at hc; rw [h.none_ hc] at hr; cases hr⟩, fun j hj hne => ⟨cnt_setR t x j hx hj _, by rw [row_setR t hx hj, if_neg (fun q => hne q.symm)]⟩⟩
    rw [row_setR t hx hj]
    split
    · have := h.short x hx; rw [hr, List.length_cons] at this; omega
    · exact Nat.le_trans (h.short j hj) (by omega)
theorem apart_l0 (l : List S59) (hl : l.length ≤ 60) (x : Nat) (hx : x < 4) : ∀ (d i k : Nat) (t : St), i + d = l.length → 20 * d + 200 ≤ k → Inv t x i →
    tontinelaw9_ObjectApart.l0 k l (x : Int) (i : Int) t.1 t.2.1 t.2.2.1 t.2.2.2.1 t.2.2.2.2.1 t.2.2.2.2.2.1 t.2.2.2.2.2.2.1 t.2.2.2.2.2.2.2 = some true := by
  intro d
  induction d with
  | zero =>
    intro i k t hi hk hI
    obtain ⟨k, rfl⟩ : ∃ m, k = m + 1 := ⟨k - 1, by omega⟩
    rw [tontinelaw9_ObjectApart.l0, if_neg (by omega)]
  | succ d ih =>
    intro i k t hi hk hI
    obtain ⟨k, rfl⟩ : ∃ m, k = m + 12 := ⟨k - 12, by omega⟩
    have w := succw i (by omega)
    rw [show k + 12 = (k + 7 + 4) + 1 from rfl, tontinelaw9_ObjectApart.l0, if_pos (by omega), if_pos (by omega)]
    rw [l1_step l x (i : Int) t i hI.short (by omega), show k + 7 = (k + 6) + 1 from rfl, tontinelaw9_ObjectApart.l1, if_neg (by decide)]
    have go : ∀ u : St, Inv u x (i + 1) → Others t u x → tontinelaw9_ObjectApart.j2 (k + 6) l (x : Int) (i : Int) u.1 u.2.1 u.2.2.1 u.2.2.2.1 u.2.2.2.2.1 u.2.2.2.2.2.1 u.2.2.2.2.2.2.1 u.2.2.2.2.2.2.2 (cnt t 0) (cnt t 1) (cnt t 2) (cnt t 3) ((row t 0).length : Int) ((row t 1).length : Int) ((row t 2).length : Int) ((row t 3).length : Int) = some true := by
      intro u hu ho
      rw [show k + 6 = (k + 5) + 1 from rfl, tontinelaw9_ObjectApart.j2, l2_all l x hx (i : Int) t u (i + 1) hu (by omega) ho, w]
      exact ih (i + 1) k u (by omega) (by omega) hu
    by_cases c : Int.tmod (rd_T59 l (i : Int)).f0 2 = 0
    · rw [if_pos c, wait_f t (i : Int) x hx i (k + 6) hI.short (by omega) (by omega), bind_some']
      have q := inv_wait t x i hx hI (i : Int)
      exact go _ q.1 q.2
    · rw [if_neg c, signal_f t x hx, bind_some']
      have q := inv_signal t x i hx hI
      exact go _ q.1 q.2
theorem ObjectApart : ∀ (x0 : List (S59)) (x1 : Int), (x0.length ≤ 9223372036854775807 ∧ ∀ y ∈ x0, wf59 y) → (0 ≤ x1 ∧ x1 ≤ 255) → ∃ k, tontinelaw9_ObjectApart.f k x0 x1 = some true := by
  intro l b _ hb
  refine ⟨2000, ?_⟩
  unfold tontinelaw9_ObjectApart.f
  rw [show (2000 : Nat) = 1984 + 16 from rfl, known_f, bind_some', if_pos rfl]
  by_cases c : (l.length : Int) > 60
  · rw [if_pos c]
  · rw [if_neg c, object_New.f, bind_some']
    have hl : b.toNat % 4 < 4 := Nat.mod_lt _ (by omega)
    have e : wrap64 (Int.tmod b 4) = ((b.toNat % 4 : Nat) : Int) := by
      rw [Int.tmod_eq_emod_of_nonneg hb.1, show b % 4 = ((b.toNat % 4 : Nat) : Int) by omega]
      exact wrap_in (by omega) (by omega)
    rw [e]
    generalize b.toNat % 4 = x at hl
    refine apart_l0 l (by omega) x hl l.length 0 2000 (0, [], 0, [], 0, [], 0, []) (by omega) (by omega) ⟨fun j hj => ?_, ?_, ?_, fun _ => ?_⟩
    · rcases lt4 hj with rfl | rfl | rfl | rfl <;> exact Nat.zero_le _
    · rcases lt4 hl with rfl | rfl | rfl | rfl <;> decide
    · rcases lt4 hl with rfl | rfl | rfl | rfl <;> decide
    · rcases lt4 hl with rfl | rfl | rfl | rfl <;> rfl
end Go.Proofs.Ytiejhnijfgdapaa.Pure
