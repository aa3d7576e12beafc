/- Who waits no more isn't woken, those behind him are, in their order: of one to ten who wait, each left out. -/
import Derived.Test.YtiejhnijfgdapaaPx10
import Derived.Test.YtiejhnijfgdapaaObjR
namespace Go.Proofs.Ytiejhnijfgdapaa.Pure
open Go Go.RowKit Go.Proofs.Ytiejhnijfgdapaa Go.Proofs.Ytiejhnijfgdapaa.P Go.Proofs.Ytiejhnijfgdapaa.ObjR Go.Proofs.YtiejhnijfgdapaaW.PrintWords Go.Proofs.YtiejhnijfgdapaaW.PrintLast Go.Proofs.YtiejhnijfgdapaaW.PrintMore
theorem all_cases : ((List.range 10).all fun k => (List.range (k + 1)).all fun j => tontinelaw9_ObjectDrops.l0 60 ((k + 1 : Nat) : Int) (j : Int) 0 0 [] 0 [] 0 [] 0 [] == some true) = true := by decide +kernel
theorem ObjectDrops : ∀ (x0 : Int) (x1 : Int), (0 ≤ x0 ∧ x0 ≤ 255) → (0 ≤ x1 ∧ x1 ≤ 255) → ∃ k, tontinelaw9_ObjectDrops.f k x0 x1 = some true := by
  intro a b ha hb
  refine ⟨60, ?_⟩
  have t1 : wrap64 (wrap64 (Int.tmod a 10) + 1) = ((a.toNat % 10 + 1 : Nat) : Int) := by
    rw [Int.tmod_eq_emod_of_nonneg ha.1]
    have : a % 10 = ((a.toNat % 10 : Nat) : Int) := by omega
    rw [this, wrap_in (n := ((a.toNat % 10 : Nat) : Int)) (by omega) (by omega), succw _ (by omega)]
  have hk : a.toNat % 10 < 10 := Nat.mod_lt _ (by omega)
  generalize a.toNat % 10 = k at t1 hk
  have t2 : Int.tmod (wrap64 b) ((k + 1 : Nat) : Int) = ((b.toNat % (k + 1) : Nat) : Int) := by
    rw [wrap_in (by omega) (by omega), Int.tmod_eq_emod_of_nonneg hb.1, Int.natCast_emod, Int.toNat_of_nonneg hb.1]
  have hj : b.toNat % (k + 1) < k + 1 := Nat.mod_lt _ (by omega)
  generalize b.toNat % (k + 1) = j at t2 hj
  unfold tontinelaw9_ObjectDrops.f
  rw [show (60 : Nat) = 44 + 16 from rfl, known_f, bind_some', if_pos rfl, t1, if_neg (by omega), t2, object_New.f, bind_some']
  have h := List.all_eq_true.mp (List.all_eq_true.mp all_cases k (List.mem_range.mpr hk)) j (List.mem_range.mpr hj)
  exact eq_of_beq h
end Go.Proofs.Ytiejhnijfgdapaa.Pure
