/- The first of a route that can run is told, and none ahead of it can; if none can, none is told: of every row, every row of who can run. -/
import Derived.Test.YtbhfkhcedjgpdaaPx17
import Derived.Test.YtbhfkhcedjgpdaaRouteR
namespace Go.Proofs.Ytbhfkhcedjgpdaa.Pure
open Go Go.RowKit Go.Proofs.Ytbhfkhcedjgpdaa Go.Proofs.Ytbhfkhcedjgpdaa.P Go.Proofs.Ytbhfkhcedjgpdaa.Lab Go.Proofs.Ytbhfkhcedjgpdaa.ConfR Go.Proofs.Ytbhfkhcedjgpdaa.ConfS Go.Proofs.Ytbhfkhcedjgpdaa.RouteR Go.Proofs.YtbhfkhcedjgpdaaW.PrintWords Go.Proofs.YtbhfkhcedjgpdaaW.PrintLast Go.Proofs.YtbhfkhcedjgpdaaW.PrintMore

theorem rf_l1 (can : List Bool) (r : List Int) (w : Int) (hr : r.length ≤ 20) (hw : w = firstB can r) : ∀ (d j k : Nat), j + d = r.length → 2 * d < k → (∀ x ∈ r.take j, okB can x = false) →
    tontinelaw16_RouteFirst.l1 k can r w (j : Int) = some true := by
  intro d
  induction d with
  | zero =>
    intro j k hj hk hn
    obtain ⟨k, rfl⟩ : ∃ m, k = m + 1 := ⟨k - 1, by omega⟩
    simp only [tontinelaw16_RouteFirst.l1]
    rw [if_neg (by omega), hw]
    rw [List.take_of_length_le (by omega)] at hn
    unfold firstB
    rw [List.find?_eq_none.2 (fun x hx => by rw [hn x hx]; decide)]
    rfl
  | succ d ih =>
    intro j k hj hk hn
    obtain ⟨k, rfl⟩ : ∃ m, k = m + 2 := ⟨k - 2, by omega⟩
    simp only [tontinelaw16_RouteFirst.l1]
    rw [if_pos (by omega), if_pos (by omega), rd_nat r j (by omega)]
    have hq : ∀ q : Bool, q = okB can r[j] → tontinelaw16_RouteFirst.j3 (k + 1) can r w (j : Int) q = some true := by
      intro q hq
      simp only [tontinelaw16_RouteFirst.j3]
      cases hb : okB can r[j] with
      | true =>
        rw [hq, hb, if_pos rfl, if_pos (by omega), if_pos (by omega), rd_nat r j (by omega), hw]
        have e : r.find? (okB can) = some r[j] := by
          rw [List.find?_eq_some_iff_getElem]
          refine ⟨hb, j, by omega, rfl, fun i hi => ?_⟩
          rw [hn _ (List.mem_iff_getElem.2 ⟨i, by rw [List.length_take]; omega, by simp⟩)]; rfl
        unfold firstB
        rw [e]
        simp
      | false =>
        rw [hq, hb, if_neg (by decide), ConfR.wrap_succ (n := r.length) (by omega) (by omega)]
        refine ih (j + 1) k (by omega) (by omega) (fun x hx => ?_)
        rw [List.take_add_one, List.getElem?_eq_getElem (by omega)] at hx
        rcases List.mem_append.1 hx with h | h
        · exact hn x h
        · have : x = r[j] := by simpa using h
          rw [this]; exact hb
    by_cases h0 : r[j] ≥ 0
    · rw [if_pos h0]
      by_cases h1 : r[j] < (can.length : Int)
      · rw [if_pos h1, if_pos h0]
        exact hq _ (by unfold okB; rw [decide_eq_true (show 0 ≤ r[j] from h0), decide_eq_true h1]; rfl)
      · rw [if_neg h1]
        exact hq _ (by unfold okB; rw [decide_eq_false h1]; simp)
    · rw [if_neg h0]
      exact hq _ (by unfold okB; rw [decide_eq_false (show ¬ 0 ≤ r[j] from h0)]; simp)

theorem rf_l0 (can : List Bool) (l : List Int) (hl : l.length ≤ 20) : ∀ (d i k : Nat) (r : List Int), i + d = l.length → d + 100 < k → r.length = i →
    tontinelaw16_RouteFirst.l0 k l can r (i : Int) = some true := by
  intro d
  induction d with
  | zero =>
    intro i k r hi hk hr
    obtain ⟨k, rfl⟩ : ∃ m, k = m + 1 := ⟨k - 1, by omega⟩
    simp only [tontinelaw16_RouteFirst.l0]
    rw [if_neg (by omega)]
    unfold route_First.f
    rw [first_f can r k (by omega), Lab.bind_some']
    exact rf_l1 can r _ (by omega) rfl r.length 0 k (by omega) (by omega) (by simp)
  | succ d ih =>
    intro i k r hi hk hr
    obtain ⟨k, rfl⟩ : ∃ m, k = m + 1 := ⟨k - 1, by omega⟩
    simp only [tontinelaw16_RouteFirst.l0]
    rw [if_pos (by omega), if_pos (by omega), if_pos (by omega), ConfR.wrap_succ (n := l.length) (by omega) (by omega)]
    exact ih (i + 1) k _ (by omega) (by omega) (by simp; omega)

theorem RouteFirst : ∀ (x0 : List Int) (x1 : List Bool), (x0.length ≤ 9223372036854775807 ∧ ∀ y ∈ x0, (0 ≤ y ∧ y ≤ 255)) → (x1.length ≤ 9223372036854775807 ∧ ∀ y ∈ x1, True) → ∃ k, tontinelaw16_RouteFirst.f k x0 x1 = some true := by
  intro l can hl hc
  obtain ⟨K, hK⟩ := known_f
  refine ⟨K + 140 + 1, ?_⟩
  have q := hK (K + 140 + 1) (by omega)
  dsimp only at q
  unfold tontinelaw16_RouteFirst.f
  rw [q, Lab.bind_some', if_pos rfl]
  by_cases h : (l.length : Int) > 20
  · rw [if_pos h]; simp only [tontinelaw16_RouteFirst.j0]; rfl
  rw [if_neg h]
  by_cases h2 : (can.length : Int) > 20
  · rw [decide_eq_true h2]; simp only [tontinelaw16_RouteFirst.j0]; rfl
  rw [decide_eq_false h2]
  simp only [tontinelaw16_RouteFirst.j0]
  rw [if_neg (by decide)]
  exact rf_l0 can l (by omega) l.length 0 _ [] (by omega) (by omega) rfl
end Go.Proofs.Ytbhfkhcedjgpdaa.Pure
