/- Every row of offers: the routes, whose turn it is, behind each; of every route the first that can run: the program's routes tell what the document's tell. -/
import Derived.Test.YtbhfkhcedjgpdaaPx14
import Derived.Test.YtbhfkhcedjgpdaaPx15
import Derived.Test.YtbhfkhcedjgpdaaPx16
import Derived.Test.YtbhfkhcedjgpdaaPx17
import Derived.Test.YtbhfkhcedjgpdaaRouteR
namespace Go.Proofs.Ytbhfkhcedjgpdaa.Pure
open Go Go.RowKit Go.Proofs.Ytbhfkhcedjgpdaa Go.Proofs.Ytbhfkhcedjgpdaa.P Go.Proofs.Ytbhfkhcedjgpdaa.Lab Go.Proofs.Ytbhfkhcedjgpdaa.ConfR Go.Proofs.Ytbhfkhcedjgpdaa.ConfS Go.Proofs.Ytbhfkhcedjgpdaa.RouteR Go.Proofs.YtbhfkhcedjgpdaaW.PrintWords Go.Proofs.YtbhfkhcedjgpdaaW.PrintLast Go.Proofs.YtbhfkhcedjgpdaaW.PrintMore

/-- No route is empty. -/
theorem routes_ne {a b : Int} {plans : List (List Int)} {doms : List S44} (h : isConf a b plans doms = 0) : ∀ d, d < doms.length → ∀ r ∈ rts doms d, 0 < r.length := by
  intro d hd r hr
  unfold isConf at h
  split at h
  · cases h
  split at h
  · cases h
  split at h
  · cases h
  split at h
  · cases h
  rename_i h4
  have h5 := eq_true_of_ne_false h4
  have h6 := List.all_eq_true.1 h5 d (by rw [List.mem_range'_1]; omega)
  rw [List.getElem?_eq_getElem hd] at h6
  have h7 : (formB doms d doms[d] && doms[d].f1.all (routeB doms doms[d].f0) && toB a doms doms[d]) = true := h6
  rw [Bool.and_eq_true, Bool.and_eq_true] at h7
  have hr2 : r ∈ doms[d].f1 := by
    have : rts doms d = doms[d].f1 := by unfold rts; rw [rdD_nat _ d hd]
    rw [← this]; exact hr
  have h8 := List.all_eq_true.1 h7.1.2 r hr2
  unfold routeB at h8
  rw [Bool.and_eq_true, Bool.and_eq_true] at h8
  have h9 := h8.1.2
  have : ¬ r.length = 0 := by simpa using h9
  omega

section
variable (a b : Int) (plans : List (List Int)) (doms : List S44) (c : Nat → Nat)
theorem has_out (d : Int) (hd : d < 0 ∨ (doms.length : Int) ≤ d) : route_Routes_has.f a b plans doms (tl doms c) d = some (false, tl doms c) := by
  unfold route_Routes_has.f
  by_cases h : d ≥ 0
  · rw [if_pos h, if_neg (by rw [tl_len]; omega)]
  · rw [if_neg h]
theorem now_out (d : Int) (hd : d < 0 ∨ (doms.length : Int) ≤ d) : route_Routes_Now.f a b plans doms (tl doms c) d = some ([], tl doms c) := by
  unfold route_Routes_Now.f
  rw [has_out a b plans doms c d hd, Lab.bind_some']
  dsimp only
  rw [if_neg (by decide)]
theorem offer_out (d : Int) (hd : d < 0 ∨ (doms.length : Int) ≤ d) : route_Routes_Offer.f a b plans doms (tl doms c) d = some ([], tl doms c) := by
  unfold route_Routes_Offer.f
  rw [now_out a b plans doms c d hd, Lab.bind_some']
  dsimp only
  rw [has_out a b plans doms c d hd, Lab.bind_some']
  dsimp only
  rw [if_neg (by decide)]
theorem turn_out (d : Int) (hd : d < 0 ∨ (doms.length : Int) ≤ d) : route_Routes_Turn.f a b plans doms (tl doms c) d = some (0, tl doms c) := by
  unfold route_Routes_Turn.f
  rw [has_out a b plans doms c d hd, Lab.bind_some']
  dsimp only
  rw [if_neg (by decide)]
theorem rnew_f (hn : doms.length ≤ 10) : tontineref15_NewRoutes.f a b plans doms = some (a, b, tl doms (fun _ => 0)) := by
  unfold tontineref15_NewRoutes.f
  rw [if_pos (by omega), if_pos (by omega)]
  congr 3
  simp only [tl, Nat.zero_mod]
  apply List.ext_getElem
  · simp
  · intro i h1 h2; simp
theorem rnow_out (d : Int) (hd : d < 0 ∨ (doms.length : Int) ≤ d) (k : Nat) : tontineref15_Routes_Now.f (k + 1) a b plans doms (tl doms c) d = some ([], tl doms c) := by
  unfold tontineref15_Routes_Now.f
  by_cases h : d < 0
  · rw [if_pos h]; simp only [tontineref15_Routes_Now.j0]; rfl
  · rw [if_neg h, if_pos (by rw [tl_len]; omega)]; simp only [tontineref15_Routes_Now.j0]; rfl
theorem rnow_f (d : Nat) (hd : d < doms.length) (k : Nat) : tontineref15_Routes_Now.f (k + 1) a b plans doms (tl doms c) (d : Int) = some (cur doms c d, tl doms c) := by
  unfold tontineref15_Routes_Now.f
  rw [if_neg (by omega), if_neg (by rw [tl_len]; omega), if_pos (by omega), if_pos (by omega)]
  by_cases h : 0 < (rts doms d).length
  · have e : cur doms c d = rd_L1 (rts doms d) ((c d % (rts doms d).length : Nat) : Int) := by unfold cur; rw [if_pos h]
    have hm := Nat.mod_lt (c d) h
    have hq : ((((rd_T44 doms (d : Int)).f1).length : Int) == 0) = false := by
      show (((rts doms d).length : Int) == 0) = false
      simp; exact fun h0 => by rw [h0] at h; simp at h
    rw [hq]
    simp only [tontineref15_Routes_Now.j0]
    rw [if_neg (by decide), if_pos (by omega), if_pos (by omega), if_pos (by rw [tl_len]; omega), tl_get doms c d hd, if_pos (by omega), if_pos (by show _ < ((rts doms d).length : Int); omega), e]
    rfl
  · have e : cur doms c d = [] := by unfold cur; rw [if_neg h]
    have hq : ((((rd_T44 doms (d : Int)).f1).length : Int) == 0) = true := by
      show (((rts doms d).length : Int) == 0) = true
      have : (rts doms d).length = 0 := by omega
      rw [this]; rfl
    rw [hq]
    simp only [tontineref15_Routes_Now.j0]
    rw [e]; rfl
theorem roffer_out (d : Int) (hd : d < 0 ∨ (doms.length : Int) ≤ d) (k : Nat) : tontineref15_Routes_Offer.f (k + 1) a b plans doms (tl doms c) d = some ([], tl doms c) := by
  unfold tontineref15_Routes_Offer.f
  rw [rnow_out a b plans doms c d hd, Lab.bind_some']
  dsimp only
  rw [if_neg (by simp)]
theorem roffer_f (hS : Small doms) (hN : ∀ d, d < doms.length → ∀ r ∈ rts doms d, 0 < r.length) (d : Nat) (hd : d < doms.length) (k : Nat) : tontineref15_Routes_Offer.f (k + 1) a b plans doms (tl doms c) (d : Int) = some (cur doms c d, tl doms (up doms c d)) := by
  unfold tontineref15_Routes_Offer.f
  rw [rnow_f a b plans doms c d hd, Lab.bind_some']
  dsimp only
  by_cases h : 0 < (rts doms d).length
  · have e : cur doms c d = rd_L1 (rts doms d) ((c d % (rts doms d).length : Nat) : Int) := by unfold cur; rw [if_pos h]
    have hlt := Nat.mod_lt (c d) h
    have hc : 0 < (cur doms c d).length := by
      rw [e, rdL_nat _ _ hlt]; exact hN d hd _ (List.getElem_mem _)
    have hm := hS.m d hd
    have hn := hS.n
    have hz : ¬ (((rd_T44 doms (d : Int)).f1.length : Nat) : Int) = 0 := by show ¬ ((rts doms d).length : Int) = 0; omega
    have hlen := tl_len doms c
    rw [if_pos (by omega), if_pos (by simp; omega), Lab.bind_some', List.nil_append, if_pos (by omega), if_pos (by omega), if_pos (by omega), if_neg hz, tl_get doms c d hd, ConfR.wrap_succ (n := (rts doms d).length) hlt (by omega)]
    have et : Int.tmod ((c d % (rts doms d).length + 1 : Nat) : Int) ((rd_T44 doms (d : Int)).f1.length : Int) = (((c d % (rts doms d).length + 1) % (rts doms d).length : Nat) : Int) := by
      show Int.tmod _ ((rts doms d).length : Int) = _
      rw [Int.tmod_eq_emod_of_nonneg (by omega), Int.natCast_emod]
    rw [et, ← tl_set doms c d h, Int.toNat_natCast]
  · have e : cur doms c d = [] := by unfold cur; rw [if_neg h]
    rw [e, if_neg (by simp), up_none doms c d h]
theorem rturn_f (hz : ∀ d, ¬ 0 < (rts doms d).length → c d = 0) (d : Nat) (hd : d < doms.length) : tontineref15_Routes_Turn.f a b plans doms (tl doms c) (d : Int) = some (if 0 < (rts doms d).length then ((c d % (rts doms d).length : Nat) : Int) else 0, tl doms c) := by
  unfold tontineref15_Routes_Turn.f
  have hlen := tl_len doms c
  rw [if_neg (by omega), if_neg (by omega), if_pos (by omega), if_pos (by omega), tl_get doms c d hd]
  by_cases h : 0 < (rts doms d).length
  · rw [if_pos h]
  · rw [if_neg h, hz d h, Nat.zero_mod]; rfl
theorem rturn_out (d : Int) (hd : d < 0 ∨ (doms.length : Int) ≤ d) : tontineref15_Routes_Turn.f a b plans doms (tl doms c) d = some (0, tl doms c) := by
  unfold tontineref15_Routes_Turn.f
  have hlen := tl_len doms c
  by_cases h : d < 0
  · rw [if_pos h]
  · rw [if_neg h, if_pos (by omega)]
end
theorem rfirst_l (can : List Bool) (l : List Int) (hl : l.length ≤ 1000) : ∀ (d i k : Nat), i + d = l.length → 2 * d < k → tontineref15_First.l0 k l can (i : Int) = some (firstB can (l.drop i)) := by
  intro d
  induction d with
  | zero =>
    intro i k hi hk
    obtain ⟨k, rfl⟩ : ∃ m, k = m + 1 := ⟨k - 1, by omega⟩
    simp only [tontineref15_First.l0]
    rw [if_neg (by omega), List.drop_eq_nil_of_le (by omega)]; rfl
  | succ d ih =>
    intro i k hi hk
    obtain ⟨k, rfl⟩ : ∃ m, k = m + 2 := ⟨k - 2, by omega⟩
    have h := ih (i + 1) k (by omega) (by omega)
    simp only [tontineref15_First.l0]
    rw [if_pos (by omega), if_pos (by omega), rd_nat l i (by omega), List.drop_eq_getElem_cons (show i < l.length by omega)]
    have hj : ∀ q : Bool, q = okB can l[i] → tontineref15_First.j1 (k + 1) l can (i : Int) l[i] q = some (firstB can (l[i] :: l.drop (i + 1))) := by
      intro q hq
      simp only [tontineref15_First.j1]
      unfold firstB
      cases hb : okB can l[i] with
      | true => rw [hq, hb, if_pos rfl, List.find?_cons_of_pos hb]
      | false =>
        rw [hq, hb, if_neg (by decide), ConfR.wrap_succ (n := l.length) (by omega) (by omega), List.find?_cons_of_neg (by rw [hb]; decide)]
        exact h
    by_cases h0 : l[i] ≥ 0
    · rw [if_pos h0]
      by_cases h1 : l[i] < (can.length : Int)
      · rw [if_pos h1, if_pos h0]
        exact hj _ (by unfold okB; rw [decide_eq_true (show 0 ≤ l[i] from h0), decide_eq_true h1]; rfl)
      · rw [if_neg h1]
        exact hj _ (by unfold okB; rw [decide_eq_false h1]; simp)
    · rw [if_neg h0]
      exact hj _ (by unfold okB; rw [decide_eq_false (show ¬ 0 ≤ l[i] from h0)]; simp)

section
variable (a b : Int) (plans : List (List Int)) (doms : List S44)
theorem rp_l1 (hS : Small doms) (c : Nat → Nat) (hz : ∀ d, ¬ 0 < (rts doms d).length → c d = 0) (l row : List Int) (can : List Bool) (i M : Nat) (hi : i ≤ 60)
    (hn : ∀ m, M ≤ m → tontinelaw16_RoutePlays.l0 m l row can ((i + 1 : Nat) : Int) a b plans doms a b plans doms (tl doms c) a b plans doms (tl doms c) = some true) :
    ∀ (q j k : Nat), j + q = doms.length + 2 → M + q < k → tontinelaw16_RoutePlays.l1 k l row can (i : Int) ((j : Int) - 1) a b plans doms a b plans doms (tl doms c) a b plans doms (tl doms c) = some true := by
  intro q
  have hnn := hS.n
  induction q with
  | zero =>
    intro j k hj hk
    obtain ⟨k, rfl⟩ : ∃ m, k = m + 1 := ⟨k - 1, by omega⟩
    simp only [tontinelaw16_RoutePlays.l1]
    rw [if_neg (by omega), ConfR.wrap_succ (i := i) (n := 100) (by omega) (by omega)]
    exact hn k (by omega)
  | succ q ih =>
    intro j k hj hk
    obtain ⟨k, rfl⟩ : ∃ m, k = m + 1 := ⟨k - 1, by omega⟩
    simp only [tontinelaw16_RoutePlays.l1]
    have hw : wrap64 ((j : Int) - 1 + 1) = ((j + 1 : Nat) : Int) - 1 := by
      rw [wrap_in (by omega) (by omega)]; omega
    rw [if_pos (by omega), hw]
    clear hw
    by_cases hr : (j : Int) - 1 < 0 ∨ (doms.length : Int) ≤ (j : Int) - 1
    · rw [turn_out a b plans doms c _ hr, Lab.bind_some', rturn_out a b plans doms c _ hr, Lab.bind_some']
      dsimp only
      rw [if_pos rfl]
      exact ih (j + 1) k (by omega) (by omega)
    · obtain ⟨d, hd⟩ : ∃ d : Nat, (j : Int) - 1 = (d : Int) := ⟨j - 1, by omega⟩
      have hd2 : d < doms.length := by omega
      rw [hd, turn_f a b plans doms c d hd2, Lab.bind_some', rturn_f a b plans doms c hz d hd2, Lab.bind_some']
      dsimp only
      rw [if_pos rfl]
      exact ih (j + 1) k (by omega) (by omega)

theorem rp_l0 (hS : Small doms) (hN : ∀ d, d < doms.length → ∀ r ∈ rts doms d, 0 < r.length) (l row : List Int) (can : List Bool) (hl : l.length ≤ 60) (hrow : row.length ≤ 20) : ∀ (q i k : Nat) (c : Nat → Nat), i + q = l.length → 100 * q + 200 < k → (∀ d, ¬ 0 < (rts doms d).length → c d = 0) →
    tontinelaw16_RoutePlays.l0 k l row can (i : Int) a b plans doms a b plans doms (tl doms c) a b plans doms (tl doms c) = some true := by
  intro q
  induction q with
  | zero =>
    intro i k c hi hk hz
    obtain ⟨k, rfl⟩ : ∃ m, k = m + 1 := ⟨k - 1, by omega⟩
    simp only [tontinelaw16_RoutePlays.l0]
    unfold route_First.f tontineref15_First.f
    have h2 := rfirst_l can row (by omega) row.length 0 k (by omega) (by omega)
    rw [List.drop_zero] at h2
    rw [if_neg (by omega), first_f can row k (by omega), Lab.bind_some']
    rw [show ((0 : Nat) : Int) = 0 from rfl] at h2
    rw [h2, Lab.bind_some']
    simp
  | succ q ih =>
    intro i k c hi hk hz
    obtain ⟨k, rfl⟩ : ∃ m, k = m + 2 := ⟨k - 2, by omega⟩
    simp only [tontinelaw16_RoutePlays.l0]
    have hnn := hS.n
    have hend : ∀ c' : Nat → Nat, (∀ d, ¬ 0 < (rts doms d).length → c' d = 0) → tontinelaw16_RoutePlays.j2 (k + 1) l row can (i : Int) false a b plans doms a b plans doms (tl doms c') a b plans doms (tl doms c') = some true := by
      intro c' hz'
      simp only [tontinelaw16_RoutePlays.j2]
      rw [if_neg (by decide)]
      exact rp_l1 a b plans doms hS c' hz' l row can i (100 * q + 201) (by omega) (fun m hm => ih (i + 1) m c' (by omega) (by omega) hz') (doms.length + 2) 0 k (by omega) (by omega)
    rw [if_pos (by omega), if_pos (by omega), rd_nat l i (by omega)]
    by_cases hr : l[i] < 0 ∨ (doms.length : Int) ≤ l[i]
    · have hs : tontineref1_SameInts.f (k + 1) [] [] = some true := ConfS.same_f [] (by simp) (k + 1) (by simp)
      rw [now_out a b plans doms c _ hr, Lab.bind_some', rnow_out a b plans doms c _ hr, Lab.bind_some']
      dsimp only
      rw [hs, Lab.bind_some', if_pos rfl, offer_out a b plans doms c _ hr, Lab.bind_some', roffer_out a b plans doms c _ hr, Lab.bind_some']
      dsimp only
      rw [hs, Lab.bind_some']
      exact hend c hz
    · obtain ⟨d, hd⟩ : ∃ d : Nat, l[i] = (d : Int) := ⟨l[i].toNat, by omega⟩
      have hd2 : d < doms.length := by omega
      have hcl := cur_len hS c d hd2
      have hs : tontineref1_SameInts.f (k + 1) (cur doms c d) (cur doms c d) = some true := ConfS.same_f _ (by omega) (k + 1) (by omega)
      rw [hd, now_f a b plans doms c hS d hd2, Lab.bind_some', rnow_f a b plans doms c d hd2, Lab.bind_some']
      dsimp only
      rw [hs, Lab.bind_some', if_pos rfl, offer_f a b plans doms c hS d hd2, Lab.bind_some', roffer_f a b plans doms c hS hN d hd2, Lab.bind_some']
      dsimp only
      rw [hs, Lab.bind_some']
      refine hend _ (fun e he => ?_)
      unfold up
      rw [if_neg (by rintro ⟨rfl, h2⟩; exact he h2)]
      exact hz e he
end

theorem RoutePlays : ∀ (x0 : S25) (x1 : List Int) (x2 : List Int) (x3 : List Bool), wf25 x0 → (x1.length ≤ 9223372036854775807 ∧ ∀ y ∈ x1, (-9223372036854775808 ≤ y ∧ y ≤ 9223372036854775807)) → (x2.length ≤ 9223372036854775807 ∧ ∀ y ∈ x2, (-9223372036854775808 ≤ y ∧ y ≤ 9223372036854775807)) → (x3.length ≤ 9223372036854775807 ∧ ∀ y ∈ x3, True) → ∃ k, tontinelaw16_RoutePlays.f k x0.f0 x0.f1 x0.f2 x0.f3 x1 x2 x3 = some true := by
  rintro ⟨a, b, plans, doms⟩ l row can hw hl hrow hcan
  obtain ⟨_, _, hp, hd⟩ := hw
  dsimp only at hp hd ⊢
  have hdr : ∀ d ∈ doms, d.f1.length ≤ 9223372036854775807 ∧ d.f2.length ≤ 9223372036854775807 := fun d h => ⟨(hd.2 d h).2.1.1, (hd.2 d h).2.2.1.1⟩
  obtain ⟨K1, h1⟩ := known_f
  obtain ⟨K2, h2⟩ := wide_f a b plans doms hp.1 hd.1 (fun d h => (hdr d h).1)
  obtain ⟨K3, h3⟩ := isConf_f a b plans doms hp.1 (fun p h => (hp.2 p h).1) hd.1 hdr
  refine ⟨K1 + K2 + K3 + 100 * l.length + 300 + 1, ?_⟩
  have q1 := h1 (K1 + K2 + K3 + 100 * l.length + 300 + 1) (by omega)
  have q2 := h2 (K1 + K2 + K3 + 100 * l.length + 300 + 1) (by omega)
  have q3 := h3 (K1 + K2 + K3 + 100 * l.length + 300 + 1) (by omega)
  dsimp only at q1 q2 q3
  unfold tontinelaw16_RoutePlays.f
  rw [q1, Lab.bind_some', if_pos rfl, q2, Lab.bind_some']
  cases hwd : wideB plans doms with
  | true => rw [if_pos rfl]; simp only [tontinelaw16_RoutePlays.j0]; rfl
  | false =>
    rw [if_neg (by decide), q3, Lab.bind_some']
    by_cases hc : isConf a b plans doms = 0
    · rw [if_pos hc]
      by_cases h60 : (l.length : Int) > 60
      · rw [if_pos h60]; simp only [tontinelaw16_RoutePlays.j0]; rfl
      rw [if_neg h60]
      by_cases h20 : (row.length : Int) > 20
      · rw [if_pos h20]; simp only [tontinelaw16_RoutePlays.j0]; rfl
      rw [if_neg h20]
      by_cases h21 : (can.length : Int) > 20
      · rw [decide_eq_true h21]; simp only [tontinelaw16_RoutePlays.j0]; rfl
      rw [decide_eq_false h21]
      have hS := small_of hwd
      simp only [tontinelaw16_RoutePlays.j0]
      rw [if_neg (by decide), new_f a b plans doms hS.n, Lab.bind_some', rnew_f a b plans doms hS.n, Lab.bind_some']
      dsimp only
      exact rp_l0 a b plans doms hS (routes_ne hc) l row can (by omega) (by omega) l.length 0 _ _ (by omega) (by omega) (fun _ _ => rfl)
    · rw [if_neg hc]; simp only [tontinelaw16_RoutePlays.j0]; rfl
end Go.Proofs.Ytbhfkhcedjgpdaa.Pure
