/- Of configurations that may be and are not wide: how many domains, how long their routes. -/
import Derived.Test.YtbhfkhcedjgpdaaPx9
import Derived.Test.YtbhfkhcedjgpdaaConfR
namespace Go.Proofs.Ytbhfkhcedjgpdaa.ConfS
open Go Go.RowKit Go.Proofs.Ytbhfkhcedjgpdaa Go.Proofs.Ytbhfkhcedjgpdaa.P Go.Proofs.Ytbhfkhcedjgpdaa.Bits64 Go.Proofs.Ytbhfkhcedjgpdaa.Lab Go.Proofs.Ytbhfkhcedjgpdaa.ConfR Go.Proofs.YtbhfkhcedjgpdaaW.PrintWords Go.Proofs.YtbhfkhcedjgpdaaW.PrintLast Go.Proofs.YtbhfkhcedjgpdaaW.PrintMore
theorem isConf_len {a b : Int} {plans : List (List Int)} {doms : List S44} (h : isConf a b plans doms = 0) : 1 ≤ doms.length ∧ doms.length ≤ 6 := by
  unfold isConf at h
  split at h
  · cases h
  · rename_i h1
    have h2 : (inB a 1 64 && inB b 1 8 && inB doms.length 1 6 && doms.all (fun d => inB d.f0.f0 0 255)) = true := by simpa only [Bool.not_eq_false] using h1
    simp only [Bool.and_eq_true] at h2
    have := (inB_iff ..).1 h2.1.2
    omega
theorem tmod_in {x : Int} {n : Nat} (h0 : 0 ≤ x) (h1 : x ≤ 255) (hn : 0 < n) : Int.tmod (wrap64 x) (n : Int) = ((x.toNat % n : Nat) : Int) ∧ x.toNat % n < n := by
  rw [wrap_in (by omega) (by omega), Int.tmod_eq_emod_of_nonneg h0]
  refine ⟨?_, Nat.mod_lt _ hn⟩
  rw [Int.natCast_emod, Int.toNat_of_nonneg h0]
theorem wide_len {plans : List (List Int)} {doms : List S44} (h : wideB plans doms = false) : doms.length ≤ 10 ∧ ∀ d ∈ doms, d.f1.length ≤ 10 ∧ ∀ r ∈ d.f1, r.length ≤ 20 := by
  unfold wideB at h
  simp only [Bool.or_eq_false_iff, decide_eq_false_iff_not, List.any_eq_false, Bool.not_eq_true] at h
  obtain ⟨⟨⟨h1, _⟩, _⟩, h2⟩ := h
  refine ⟨by omega, fun d hd => ?_⟩
  obtain ⟨⟨h3, _⟩, h4⟩ := h2 d hd
  exact ⟨by omega, fun r hr => by have := h4 r hr; omega⟩
theorem same_l (l : List Int) (hl : l.length ≤ 1099511627776) : ∀ (d i k : Nat), i + d = l.length → d < k → tontineref1_SameInts.l0 k l l (i : Int) = some true := by
  intro d
  induction d with
  | zero =>
    intro i k hi hk
    obtain ⟨k, rfl⟩ : ∃ m, k = m + 1 := ⟨k - 1, by omega⟩
    simp only [tontineref1_SameInts.l0]
    rw [if_neg (by omega)]
  | succ d ih =>
    intro i k hi hk
    obtain ⟨k, rfl⟩ : ∃ m, k = m + 1 := ⟨k - 1, by omega⟩
    have h := ih (i + 1) k (by omega) (by omega)
    simp only [tontineref1_SameInts.l0]
    rw [if_pos (by omega), if_pos (by omega), if_pos (by omega), if_pos trivial, wrap_succ (n := l.length) (by omega) (by omega), h]
/-- Two rows that are one are the same. -/
theorem same_f (l : List Int) (hl : l.length ≤ 1099511627776) (k : Nat) (hk : l.length < k) : tontineref1_SameInts.f k l l = some true := by
  unfold tontineref1_SameInts.f
  rw [if_pos rfl]
  exact same_l l hl l.length 0 k (by omega) hk
end Go.Proofs.Ytbhfkhcedjgpdaa.ConfS
