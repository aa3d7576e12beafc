/- What the program's checks tell, over configurations that may be. -/
import Derived.Test.YtbhfkhcedjgpdaaDoorPx2
import Derived.Test.YtbhfkhcedjgpdaaDoorPx3
import Derived.Test.YtbhfkhcedjgpdaaDoorPx4
import Derived.Test.YtbhfkhcedjgpdaaDoorPx6
import Derived.Test.YtbhfkhcedjgpdaaDoorConfR
namespace Go.Proofs.YtbhfkhcedjgpdaaDoor.CheckB
open Go Go.RowKit Go.Proofs.YtbhfkhcedjgpdaaDoor Go.Proofs.YtbhfkhcedjgpdaaDoor.P Go.Proofs.YtbhfkhcedjgpdaaDoor.Bits64 Go.Proofs.YtbhfkhcedjgpdaaDoor.Lab Go.Proofs.YtbhfkhcedjgpdaaDoor.ConfR Go.Proofs.YtbhfkhcedjgpdaaDoorW.PrintWords Go.Proofs.YtbhfkhcedjgpdaaDoorW.PrintLast Go.Proofs.YtbhfkhcedjgpdaaDoorW.PrintMore
theorem known_f : Ev (fun k => tontinelaw20_known.f k) true := Ev.of (fun k => tontinelaw20_known.mono k) (k := 20) (by decide +kernel)
theorem isConf_len {a b : Int} {plans : List (List Int)} {doms : List S60} (h : isConf a b plans doms = 0) : 1 ≤ doms.length ∧ doms.length ≤ 6 := by
  unfold isConf at h
  split at h
  · cases h
  · rename_i h1
    have h2 : (inB a 1 64 && inB b 1 8 && inB doms.length 1 6 && doms.all (fun d => inB d.f0.f0 0 255)) = true := by simpa only [Bool.not_eq_false] using h1
    simp only [Bool.and_eq_true] at h2
    have := (inB_iff ..).1 h2.1.2
    omega
theorem tmod_in {x : Int} {n : Nat} (h0 : 0 ≤ x) (h1 : x ≤ 255) (hn : 0 < n) : Int.tmod (wrap64 x) (n : Int) = ((x.toNat % n : Nat) : Int) ∧ x.toNat % n < n := by
  rw [wrap_in (by omega) (by omega), Int.tmod_eq_emod_of_nonneg h0]
  refine ⟨?_, Nat.mod_lt _ hn⟩
  rw [Int.natCast_emod, Int.toNat_of_nonneg h0]
section
variable (a b : Int) (plans : List (List Int)) (doms : List S60)
theorem domain_f (i : Int) : check_domain.f a b plans doms i = some (decide (0 ≤ i) && decide (i < (doms.length : Int))) := by
  unfold check_domain.f; by_cases h : i ≥ 0 <;> simp [h] <;> omega
/-- Of two domains: may what the first knows flow to the second. -/
def flowE (doms : List S60) (i j : Nat) : Option Int := if leqB (rd_T60 doms i).f0.f0 (rd_T60 doms i).f0.f1 (rd_T60 doms j).f0.f0 (rd_T60 doms j).f0.f1 = true then none else some 15
theorem flows_f (i j : Nat) (hi : i < doms.length) (hj : j < doms.length) (k : Nat) : check_flows.f (k + 1) a b plans doms (i : Int) (j : Int) = some (flowE doms i j) := by
  unfold check_flows.f flowE
  rw [domain_f, domain_f]
  simp only [bind_some']
  rw [decide_eq_true (show (0 : Int) ≤ (i : Int) by omega), decide_eq_true (show (i : Int) < (doms.length : Int) by omega), decide_eq_true (show (0 : Int) ≤ (j : Int) by omega), decide_eq_true (show (j : Int) < (doms.length : Int) by omega)]
  simp only [Bool.and_true, if_true, Bool.not_true]
  simp only [check_flows.j0]
  rw [if_neg (by decide), if_pos (by omega), if_pos (by omega), if_pos (by omega), if_pos (by omega), leq_f, bind_some']
  split <;> rfl
theorem send_f (i j : Nat) (hi : i < doms.length) (hj : j < doms.length) (k : Nat) : check_Send.f (k + 1) a b plans doms (i : Int) (j : Int) = some (flowE doms i j) := by
  unfold check_Send.f
  rw [flows_f a b plans doms i j hi hj, bind_some']
theorem read_f (i j : Nat) (hi : i < doms.length) (hj : j < doms.length) (k : Nat) : check_Read.f (k + 1) a b plans doms (i : Int) (j : Int) = some (flowE doms j i) := by
  unfold check_Read.f
  rw [flows_f a b plans doms j i hj hi, bind_some']
def sendsAll (doms : List S60) (i : Nat) : Bool := (List.range' 0 doms.length).all (fun j => (flowE doms i j).isNone)
def planE (plans : List (List Int)) (doms : List S60) (i : Nat) (p : Int) : Option Int := if sendsAll doms i = true then (if p < 0 then some 10 else if p ≥ (plans.length : Int) then some 10 else none) else some 15
theorem plan_f (hd : doms.length ≤ 9223372036854775807) (i : Nat) (hi : i < doms.length) (p : Int) : Ev (fun k => check_Plan.f k a b plans doms (i : Int) p) (planE plans doms i p) := by
  unfold check_Plan.f planE
  refine Ev_all (g := fun k j => check_Plan.l0 k (i : Int) p j a b plans doms) doms.length _ (some 15) _ ?_ ?_ ?_
  · intro j hj hq r hE
    obtain ⟨K, hK⟩ := hE
    refine ⟨K + 2, fun k hk => ?_⟩
    obtain ⟨k, rfl⟩ : ∃ m, k = m + 2 := ⟨k - 2, by omega⟩
    have q := hK (k + 1) (by omega)
    dsimp only at q
    simp only [check_Plan.l0]
    rw [if_pos (by omega), flows_f a b plans doms i j hi hj, bind_some', if_pos hq, wrap_succ hj hd, ← q]
    rfl
  · intro j hj hq
    refine ⟨2, fun k hk => ?_⟩
    obtain ⟨k, rfl⟩ : ∃ m, k = m + 2 := ⟨k - 2, by omega⟩
    simp only [check_Plan.l0]
    rw [if_pos (by omega), flows_f a b plans doms i j hi hj, bind_some', if_neg (by simp [hq])]
  · refine Ev_one (fun k => ?_)
    simp only [check_Plan.l0]
    rw [if_neg (by omega)]
    split
    · rfl
    · split <;> rfl
def levelE (doms : List S60) (i : Nat) (n : Int) : Option Int := if decide (n < 0) || decide (n ≥ ((rd_T60 doms i).f2.length : Int)) then some 10 else none
theorem level_f (i : Nat) (hi : i < doms.length) (n : Int) (k : Nat) : check_Level.f (k + 1) a b plans doms (i : Int) n = some (levelE doms i n) := by
  unfold check_Level.f levelE
  rw [domain_f, bind_some', decide_eq_true (show (0 : Int) ≤ (i : Int) by omega), decide_eq_true (show (i : Int) < (doms.length : Int) by omega)]
  simp only [Bool.and_true, if_true]
  simp only [check_Level.j0]
  by_cases h : n < 0
  · rw [if_pos h, if_pos trivial, if_pos (by simp [h])]
  · rw [if_neg h, if_pos (by omega), if_pos (by omega)]
    by_cases h2 : n ≥ ((rd_T60 doms i).f2.length : Int)
    · rw [decide_eq_true h2, if_pos rfl, if_pos (by simp)]
    · rw [decide_eq_false h2, if_neg (by decide), if_neg (by simp [h])]
end
end Go.Proofs.YtbhfkhcedjgpdaaDoor.CheckB
