/- Offered as often as it has routes, each was offered once, and it is the first one's turn again; others' turns stay: of every configuration, domain, number of rounds. -/
import Derived.Test.YtbhfkhcedjgpdaaPx16
import Derived.Test.YtbhfkhcedjgpdaaRouteR
namespace Go.Proofs.Ytbhfkhcedjgpdaa.Pure
open Go Go.RowKit Go.Proofs.Ytbhfkhcedjgpdaa Go.Proofs.Ytbhfkhcedjgpdaa.P Go.Proofs.Ytbhfkhcedjgpdaa.Lab Go.Proofs.Ytbhfkhcedjgpdaa.ConfR Go.Proofs.Ytbhfkhcedjgpdaa.ConfS Go.Proofs.Ytbhfkhcedjgpdaa.RouteR Go.Proofs.YtbhfkhcedjgpdaaW.PrintWords Go.Proofs.YtbhfkhcedjgpdaaW.PrintLast Go.Proofs.YtbhfkhcedjgpdaaW.PrintMore

section
variable (a b : Int) (plans : List (List Int)) (doms : List S44)
theorem rr_l1 (hS : Small doms) (c : Nat → Nat) (hc : ∀ i, i < doms.length → c i % (rts doms i).length = 0 ∨ ¬ 0 < (rts doms i).length) : ∀ (d j k : Nat), j + d = doms.length → d < k →
    tontinelaw16_RouteRounds.l1 k (j : Int) a b plans doms a b plans doms (tl doms c) = some true := by
  intro d
  induction d with
  | zero =>
    intro j k hj hk
    obtain ⟨k, rfl⟩ : ∃ m, k = m + 1 := ⟨k - 1, by omega⟩
    simp only [tontinelaw16_RouteRounds.l1]
    rw [if_neg (by omega)]
  | succ d ih =>
    intro j k hj hk
    obtain ⟨k, rfl⟩ : ∃ m, k = m + 1 := ⟨k - 1, by omega⟩
    have hn := hS.n
    simp only [tontinelaw16_RouteRounds.l1]
    rw [if_pos (by omega), turn_f a b plans doms c j (by omega), Lab.bind_some']
    dsimp only
    have h0 : (if 0 < (rts doms j).length then ((c j % (rts doms j).length : Nat) : Int) else 0) = 0 := by
      rcases hc j (by omega) with h | h
      · rw [h]; simp
      · rw [if_neg h]
    rw [if_pos h0, ConfR.wrap_succ (n := doms.length) (by omega) (by omega)]
    exact ih (j + 1) k (by omega) (by omega)

theorem rr_l0 (hS : Small doms) (x2 : Int) (d : Nat) (hd : d < doms.length) (B : Nat) (hB : wrap64 (wrap64 (Int.tmod x2 10) * ((rts doms d).length : Int)) = (B : Int)) (hB2 : B ≤ 90) (hB3 : B % (rts doms d).length = 0 ∨ ¬ 0 < (rts doms d).length) (hB4 : ¬ 0 < (rts doms d).length → B = 0) :
    ∀ (q i k : Nat), i + q = B → q + 60 < k → tontinelaw16_RouteRounds.l0 k x2 (d : Int) ((rts doms d).length : Int) (i : Int) a b plans doms a b plans doms (tl doms (fun j => if j = d then i else 0)) = some true := by
  intro q
  induction q with
  | zero =>
    intro i k hi hk
    obtain ⟨k, rfl⟩ : ∃ m, k = m + 1 := ⟨k - 1, by omega⟩
    simp only [tontinelaw16_RouteRounds.l0]
    rw [hB, if_neg (by omega)]
    have hn := hS.n
    refine rr_l1 a b plans doms hS _ (fun j hj => ?_) doms.length 0 k (by omega) (by omega)
    by_cases e : j = d
    · subst e
      rw [if_pos rfl, show i = B by omega]
      exact hB3
    · rw [if_neg e]; exact .inl (Nat.zero_mod _)
  | succ q ih =>
    intro i k hi hk
    obtain ⟨k, rfl⟩ : ∃ m, k = m + 1 := ⟨k - 1, by omega⟩
    simp only [tontinelaw16_RouteRounds.l0]
    have hm : 0 < (rts doms d).length := by
      rcases Nat.eq_zero_or_pos (rts doms d).length with h | h
      · have := hB4 (by omega); omega
      · exact h
    have hm10 := hS.m d hd
    obtain ⟨c, hc⟩ : ∃ c : Nat → Nat, c = fun j => if j = d then i else 0 := ⟨_, rfl⟩
    have hcd : c d = i := by rw [hc]; simp
    rw [hB, if_pos (by omega), ← hc, turn_f a b plans doms c d hd, Lab.bind_some']
    dsimp only
    have et : Int.tmod (i : Int) ((rts doms d).length : Int) = ((i % (rts doms d).length : Nat) : Int) := by
      rw [Int.tmod_eq_emod_of_nonneg (by omega), Int.natCast_emod]
    have hlt := Nat.mod_lt i hm
    rw [if_neg (by omega), if_pos hm, hcd, et, if_pos rfl, offer_f a b plans doms c hS d hd, Lab.bind_some']
    dsimp only
    have ec : cur doms c d = rd_L1 (rts doms d) ((i % (rts doms d).length : Nat) : Int) := by
      unfold cur; rw [if_pos hm, hcd]
    have hcl := cur_len hS c d hd
    rw [if_pos (by omega), if_pos (by omega), if_pos (by omega), if_pos (by show _ < ((rts doms d).length : Int); omega)]
    rw [show rd_L1 (rd_T44 doms (d : Int)).f1 ((i % (rts doms d).length : Nat) : Int) = cur doms c d from ec.symm]
    rw [ConfS.same_f (cur doms c d) (by omega) k (by omega), Lab.bind_some', if_pos rfl, ConfR.wrap_succ (i := i) (n := 100) (by omega) (by omega)]
    have eu : up doms c d = fun j => if j = d then i + 1 else 0 := by
      funext j
      rw [hc]
      by_cases e : j = d
      · simp [up, e, hm]
      · simp [up, e]
    rw [eu]
    exact ih (i + 1) k (by omega) (by omega)
end

theorem RouteRounds : ∀ (x0 : S25) (x1 : Int) (x2 : Int), wf25 x0 → (0 ≤ x1 ∧ x1 ≤ 255) → (0 ≤ x2 ∧ x2 ≤ 255) → ∃ k, tontinelaw16_RouteRounds.f k x0.f0 x0.f1 x0.f2 x0.f3 x1 x2 = some true := by
  rintro ⟨a, b, plans, doms⟩ x n hw hx hn
  obtain ⟨_, _, hp, hd⟩ := hw
  dsimp only at hp hd ⊢
  have hdr : ∀ d ∈ doms, d.f1.length ≤ 9223372036854775807 ∧ d.f2.length ≤ 9223372036854775807 := fun d h => ⟨(hd.2 d h).2.1.1, (hd.2 d h).2.2.1.1⟩
  obtain ⟨K1, h1⟩ := known_f
  obtain ⟨K2, h2⟩ := wide_f a b plans doms hp.1 hd.1 (fun d h => (hdr d h).1)
  obtain ⟨K3, h3⟩ := isConf_f a b plans doms hp.1 (fun p h => (hp.2 p h).1) hd.1 hdr
  refine ⟨K1 + K2 + K3 + 200 + 1, ?_⟩
  have q1 := h1 (K1 + K2 + K3 + 200 + 1) (by omega)
  have q2 := h2 (K1 + K2 + K3 + 200 + 1) (by omega)
  have q3 := h3 (K1 + K2 + K3 + 200 + 1) (by omega)
  dsimp only at q1 q2 q3
  unfold tontinelaw16_RouteRounds.f
  rw [q1, Lab.bind_some', if_pos rfl, q2, Lab.bind_some']
  cases hwd : wideB plans doms with
  | true => rw [if_pos rfl]; simp only [tontinelaw16_RouteRounds.j0]; rfl
  | false =>
    rw [if_neg (by decide), q3, Lab.bind_some']
    by_cases hc : isConf a b plans doms = 0
    · obtain ⟨l1, l2⟩ := ConfS.isConf_len hc
      have hS := small_of hwd
      obtain ⟨t1, t2⟩ := ConfS.tmod_in hx.1 hx.2 (show 0 < doms.length by omega)
      obtain ⟨i, hi⟩ : ∃ i, x.toNat % doms.length = i := ⟨_, rfl⟩
      rw [hi] at t1 t2
      rw [hc]
      simp only [tontinelaw16_RouteRounds.j0]
      rw [if_neg (by decide), new_f a b plans doms hS.n, Lab.bind_some', t1]
      dsimp only
      rw [if_neg (by omega), if_pos (by omega), if_pos (by omega)]
      have hm := hS.m i t2
      have hz : (fun j => if j = i then 0 else 0 : Nat → Nat) = fun _ => 0 := by funext j; simp
      have e10 : wrap64 (Int.tmod n 10) = ((n.toNat % 10 : Nat) : Int) := by
        rw [Int.tmod_eq_emod_of_nonneg hn.1, wrap_in (by omega) (by omega)]; omega
      have hB : wrap64 (wrap64 (Int.tmod n 10) * ((rts doms i).length : Int)) = ((n.toNat % 10 * (rts doms i).length : Nat) : Int) := by
        rw [e10, ← Int.natCast_mul]
        have : n.toNat % 10 * (rts doms i).length ≤ 9 * 10 := Nat.mul_le_mul (by omega) hm
        exact wrap_in (by omega) (by omega)
      have hB2 : n.toNat % 10 * (rts doms i).length ≤ 90 := Nat.mul_le_mul (show n.toNat % 10 ≤ 9 by omega) hm
      have h9 := rr_l0 a b plans doms hS n i t2 _ hB hB2 (.inl (Nat.mul_mod_left _ _)) (fun h => by rw [show (rts doms i).length = 0 by omega, Nat.mul_zero]) (n.toNat % 10 * (rts doms i).length) 0 (K1 + K2 + K3 + 200) (by omega) (by omega)
      rw [hz] at h9
      exact h9
    · have : (isConf a b plans doms != 0) = true := by simpa using hc
      rw [this]; simp only [tontinelaw16_RouteRounds.j0]; rfl
end Go.Proofs.Ytbhfkhcedjgpdaa.Pure
