/- Routes, as the printed functions tell them: whose turn it is, by how often each was offered. -/
import Derived.Test.YtbhfkhcedjgpdaaPx2
import Derived.Test.YtbhfkhcedjgpdaaPx3
import Derived.Test.YtbhfkhcedjgpdaaPx4
import Derived.Test.YtbhfkhcedjgpdaaPx5
import Derived.Test.YtbhfkhcedjgpdaaPx6
import Derived.Test.YtbhfkhcedjgpdaaConfS
namespace Go.Proofs.Ytbhfkhcedjgpdaa.RouteR
open Go Go.RowKit Go.Proofs.Ytbhfkhcedjgpdaa Go.Proofs.Ytbhfkhcedjgpdaa.P Go.Proofs.Ytbhfkhcedjgpdaa.Bits64 Go.Proofs.Ytbhfkhcedjgpdaa.Lab Go.Proofs.Ytbhfkhcedjgpdaa.ConfR Go.Proofs.Ytbhfkhcedjgpdaa.ConfS Go.Proofs.YtbhfkhcedjgpdaaW.PrintWords Go.Proofs.YtbhfkhcedjgpdaaW.PrintLast Go.Proofs.YtbhfkhcedjgpdaaW.PrintMore
theorem known_f : Ev (fun k => tontinelaw16_known.f k) true := Ev.of (fun k => tontinelaw16_known.mono k) (k := 20) (by decide +kernel)
/-- A domain's routes. -/
def rts (doms : List S44) (d : Nat) : List (List Int) := (rd_T44 doms (d : Int)).f1
/-- How often each was offered: whose turn it is. -/
def tl (doms : List S44) (c : Nat → Nat) : List Int := (List.range doms.length).map fun i => ((c i % (rts doms i).length : Nat) : Int)
theorem tl_len (doms : List S44) (c : Nat → Nat) : (tl doms c).length = doms.length := by simp [tl]
theorem tl_get (doms : List S44) (c : Nat → Nat) (d : Nat) (h : d < doms.length) : rd (tl doms c) (d : Int) = ((c d % (rts doms d).length : Nat) : Int) := by
  rw [rd_nat _ d (by rw [tl_len]; exact h)]; simp [tl]
def up (doms : List S44) (c : Nat → Nat) (d : Nat) : Nat → Nat := fun i => if i = d ∧ 0 < (rts doms d).length then c i + 1 else c i
theorem up_none (doms : List S44) (c : Nat → Nat) (d : Nat) (h : ¬ 0 < (rts doms d).length) : up doms c d = c := by
  funext i; simp [up, h]
theorem tl_set (doms : List S44) (c : Nat → Nat) (d : Nat) (h : 0 < (rts doms d).length) : (tl doms c).set d (((c d % (rts doms d).length + 1) % (rts doms d).length : Nat) : Int) = tl doms (up doms c d) := by
  apply List.ext_getElem
  · simp [tl]
  · intro i h1 h2
    rw [List.getElem_set]
    by_cases e : d = i
    · subst e
      rw [if_pos rfl]
      have e : up doms c d d = c d + 1 := by simp [up, h]
      simp only [tl, List.getElem_map, List.getElem_range, e, Nat.mod_add_mod]
    · rw [if_neg e]
      have : ¬ (i = d ∧ 0 < (rts doms d).length) := fun h => e h.1.symm
      simp only [tl, List.getElem_map, List.getElem_range, up, if_neg this]
/-- The route whose turn it is. -/
def cur (doms : List S44) (c : Nat → Nat) (d : Nat) : List Int := if 0 < (rts doms d).length then rd_L1 (rts doms d) ((c d % (rts doms d).length : Nat) : Int) else []
structure Small (doms : List S44) : Prop where
  n : doms.length ≤ 10
  m : ∀ d, d < doms.length → (rts doms d).length ≤ 10
  r : ∀ d, d < doms.length → ∀ x ∈ rts doms d, x.length ≤ 20
theorem small_of {plans : List (List Int)} {doms : List S44} (h : wideB plans doms = false) : Small doms := by
  obtain ⟨h1, h2⟩ := wide_len h
  have e : ∀ d (hd : d < doms.length), rts doms d = (doms[d]).f1 := by
    intro d hd; unfold rts; rw [rdD_nat _ d hd]
  exact ⟨h1, fun d hd => by rw [e d hd]; exact (h2 _ (List.getElem_mem hd)).1, fun d hd => by rw [e d hd]; exact (h2 _ (List.getElem_mem hd)).2⟩
theorem cur_len {doms : List S44} (hS : Small doms) (c : Nat → Nat) (d : Nat) (hd : d < doms.length) : (cur doms c d).length ≤ 20 := by
  unfold cur
  split
  · rename_i h
    rw [rdL_nat _ _ (Nat.mod_lt _ h)]
    exact hS.r d hd _ (List.getElem_mem _)
  · simp
section
variable (a b : Int) (plans : List (List Int)) (doms : List S44) (c : Nat → Nat)
theorem new_f (hn : doms.length ≤ 10) : route_New.f a b plans doms = some (a, b, tl doms (fun _ => 0)) := by
  unfold route_New.f
  rw [if_pos (by omega), if_pos (by omega)]
  congr 3
  simp only [tl, Nat.zero_mod]
  apply List.ext_getElem
  · simp
  · intro i h1 h2; simp
theorem has_f (d : Nat) (hd : d < doms.length) : route_Routes_has.f a b plans doms (tl doms c) (d : Int) = some (decide (0 < (rts doms d).length), tl doms c) := by
  unfold route_Routes_has.f
  rw [if_pos (by omega), if_pos (by rw [tl_len]; omega), if_pos (by omega), if_pos (by omega)]
  show some (decide (((rts doms d).length : Int) > 0), tl doms c) = _
  have e : decide (((rts doms d).length : Int) > 0) = decide (0 < (rts doms d).length) := decide_eq_decide.2 (by omega)
  rw [e]
theorem now_f (hS : Small doms) (d : Nat) (hd : d < doms.length) : route_Routes_Now.f a b plans doms (tl doms c) (d : Int) = some (cur doms c d, tl doms c) := by
  unfold route_Routes_Now.f
  rw [has_f a b plans doms c d hd, bind_some']
  dsimp only
  have hc := cur_len hS c d hd
  by_cases h : 0 < (rts doms d).length
  · have e : cur doms c d = rd_L1 (rts doms d) ((c d % (rts doms d).length : Nat) : Int) := by unfold cur; rw [if_pos h]
    have hm := Nat.mod_lt (c d) h
    rw [if_pos (decide_eq_true h), if_pos (by omega), if_pos (by omega), if_pos (by rw [tl_len]; omega), tl_get doms c d hd, if_pos (by omega), if_pos (by show _ < ((rts doms d).length : Int); omega)]
    show (ext_46.f (rd_L1 (rts doms d) ((c d % (rts doms d).length : Nat) : Int))).bind _ = _
    rw [← e]
    unfold ext_46.f
    rw [if_pos (by omega), bind_some']
  · rw [decide_eq_false h, if_neg (by decide)]
    unfold cur
    rw [if_neg h]
theorem offer_f (hS : Small doms) (d : Nat) (hd : d < doms.length) : route_Routes_Offer.f a b plans doms (tl doms c) (d : Int) = some (cur doms c d, tl doms (up doms c d)) := by
  unfold route_Routes_Offer.f
  rw [now_f a b plans doms c hS d hd, bind_some']
  dsimp only
  rw [has_f a b plans doms c d hd, bind_some']
  dsimp only
  by_cases h : 0 < (rts doms d).length
  · have hm := hS.m d hd
    have hlt := Nat.mod_lt (c d) h
    have hz : ¬ (((rd_T44 doms (d : Int)).f1.length : Nat) : Int) = 0 := by show ¬ ((rts doms d).length : Int) = 0; omega
    rw [if_pos (decide_eq_true h), if_pos (by omega), if_pos (by rw [tl_len]; omega), if_pos (by omega), if_neg hz, tl_get doms c d hd, ConfR.wrap_succ (n := (rts doms d).length) hlt (by omega)]
    have et : Int.tmod ((c d % (rts doms d).length + 1 : Nat) : Int) ((rd_T44 doms (d : Int)).f1.length : Int) = (((c d % (rts doms d).length + 1) % (rts doms d).length : Nat) : Int) := by
      show Int.tmod _ ((rts doms d).length : Int) = _
      rw [Int.tmod_eq_emod_of_nonneg (by omega), Int.natCast_emod]
    rw [et, ← tl_set doms c d h, Int.toNat_natCast]
  · rw [decide_eq_false h, if_neg (by decide), up_none doms c d h]
theorem turn_f (d : Nat) (hd : d < doms.length) : route_Routes_Turn.f a b plans doms (tl doms c) (d : Int) = some (if 0 < (rts doms d).length then ((c d % (rts doms d).length : Nat) : Int) else 0, tl doms c) := by
  unfold route_Routes_Turn.f
  rw [has_f a b plans doms c d hd, bind_some']
  dsimp only
  by_cases h : 0 < (rts doms d).length
  · rw [if_pos (decide_eq_true h), if_pos (by omega), if_pos (by rw [tl_len]; omega), tl_get doms c d hd, if_pos h]
  · rw [decide_eq_false h, if_neg (by decide), if_neg h]
end
/-- May it run. -/
def okB (can : List Bool) (d : Int) : Bool := decide (0 ≤ d) && decide (d < (can.length : Int)) && rdOf false can d
def firstB (can : List Bool) (l : List Int) : Int := match l.find? (okB can) with | some d => d | none => -1
theorem first_f (can : List Bool) : ∀ (l : List Int) (k : Nat), 2 * l.length < k → route_First.l0 k l can = some (firstB can l) := by
  intro l
  induction l with
  | nil =>
    intro k hk
    obtain ⟨k, rfl⟩ : ∃ m, k = m + 1 := ⟨k - 1, by omega⟩
    simp only [route_First.l0]
    rw [if_pos (by simp)]; rfl
  | cons x l ih =>
    intro k hk
    obtain ⟨k, rfl⟩ : ∃ m, k = m + 2 := ⟨k - 2, by simp at hk; omega⟩
    have h := ih k (by simp at hk; omega)
    have e0 : rd (x :: l) 0 = x := rfl
    simp only [route_First.l0]
    rw [if_neg (by simp; try omega), if_pos (by simp; try omega), e0]
    have hj : ∀ q : Bool, q = okB can x → route_First.j1 (k + 1) (x :: l) can x q = some (firstB can (x :: l)) := by
      intro q hq
      simp only [route_First.j1]
      unfold firstB
      cases hb : okB can x with
      | true => rw [hq, hb, if_pos rfl, List.find?_cons_of_pos hb]
      | false =>
        rw [hq, hb, if_neg (by decide), if_pos (by simp; try omega), List.find?_cons_of_neg (by rw [hb]; decide)]
        exact h
    by_cases h0 : x ≥ 0
    · rw [if_pos h0]
      by_cases h1 : x < (can.length : Int)
      · rw [if_pos h1, if_pos h0]
        exact hj _ (by unfold okB; rw [decide_eq_true (show 0 ≤ x from h0), decide_eq_true h1]; rfl)
      · rw [if_neg h1]
        exact hj _ (by unfold okB; rw [decide_eq_false h1]; simp)
    · rw [if_neg h0]
      exact hj _ (by unfold okB; rw [decide_eq_false (show ¬ 0 ≤ x from h0)]; simp)
end Go.Proofs.Ytbhfkhcedjgpdaa.RouteR
