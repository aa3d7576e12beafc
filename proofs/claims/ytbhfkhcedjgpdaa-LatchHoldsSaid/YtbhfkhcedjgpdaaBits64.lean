/- Sets of 64 as bit vectors: what the program's | & &^ on them tell. -/
import Derived.Laws.BitsLemmas
import Derived.WalkKit
namespace Go.Proofs.Ytbhfkhcedjgpdaa.Bits64
open Go
/-- The set of a number. -/
def B (x : Int) : BitVec 64 := BitVec.ofInt 64 x
/-- The number of a set. -/
def I (v : BitVec 64) : Int := (v.toNat : Int)
theorem I_B {x : Int} (h0 : 0 ≤ x) (h1 : x ≤ 18446744073709551615) : I (B x) = x := by
  unfold I B; rw [BitVec.toNat_ofInt]; omega
theorem B_I (v : BitVec 64) : B (I v) = v := by
  unfold I B; apply BitVec.eq_of_toNat_eq; rw [BitVec.toNat_ofInt]; have := v.isLt; omega
theorem I_lo (v : BitVec 64) : 0 ≤ I v := by unfold I; omega
theorem I_hi (v : BitVec 64) : I v ≤ 18446744073709551615 := by unfold I; have := v.isLt; omega
theorem I_inj {u v : BitVec 64} : I u = I v ↔ u = v := ⟨fun h => by rw [← B_I u, ← B_I v, h], fun h => by rw [h]⟩
theorem wrapI (v : BitVec 64) : IntKind.u64.wrap (v.toNat : Int) = I v := by
  have := v.isLt
  simp [IntKind.wrap, IntKind.bits, IntKind.signed, I]; omega
theorem or_eq (x y : Int) : bits .or .u64 x y = I (B x ||| B y) := by rw [← wrapI]; rfl
theorem and_eq (x y : Int) : bits .and .u64 x y = I (B x &&& B y) := by rw [← wrapI]; rfl
theorem andNot_eq (x y : Int) : bits .andNot .u64 x y = I (B x &&& ~~~ B y) := by rw [← wrapI]; rfl
theorem I_zero {v : BitVec 64} : I v = 0 ↔ v = 0#64 := by
  rw [show (0 : Int) = I 0#64 from rfl]; exact I_inj
/-- One set within another. -/
def Sub (u v : BitVec 64) : Prop := ∀ i : Nat, u.getLsbD i = true → v.getLsbD i = true
theorem sub_iff {u v : BitVec 64} : u &&& ~~~ v = 0#64 ↔ Sub u v := by
  constructor
  · intro h i hu
    have h1 : (u &&& ~~~ v).getLsbD i = (0#64).getLsbD i := by rw [h]
    have hi : i < 64 := by
      rcases Nat.lt_or_ge i 64 with h | h
      · exact h
      · rw [BitVec.getLsbD_of_ge u i h] at hu; cases hu
    simp [hi, hu] at h1
    exact h1
  · intro h
    apply BitVec.eq_of_getLsbD_eq
    intro i hi
    have := h i
    cases hu : u.getLsbD i <;> cases hv : v.getLsbD i <;> simp_all
theorem andNot_zero (x y : Int) : bits .andNot .u64 x y = 0 ↔ Sub (B x) (B y) := by rw [andNot_eq, I_zero, sub_iff]
theorem Sub.refl (u : BitVec 64) : Sub u u := fun _ h => h
theorem Sub.trans {u v x : BitVec 64} (h : Sub u v) (k : Sub v x) : Sub u x := fun i hi => k i (h i hi)
theorem Sub.antisymm {u v : BitVec 64} (h : Sub u v) (k : Sub v u) : u = v := by
  apply BitVec.eq_of_getLsbD_eq
  intro i hi
  have := h i; have := k i
  cases hu : u.getLsbD i <;> cases hv : v.getLsbD i <;> simp_all
theorem sub_or {u v x : BitVec 64} : Sub (u ||| v) x ↔ Sub u x ∧ Sub v x :=
  ⟨fun h => ⟨fun i hi => h i (by simp [hi]), fun i hi => h i (by simp [hi])⟩, fun ⟨h, k⟩ i hi => by
    rw [BitVec.getLsbD_or, Bool.or_eq_true] at hi
    exact hi.elim (h i) (k i)⟩
theorem sub_and {u v x : BitVec 64} : Sub x (u &&& v) ↔ Sub x u ∧ Sub x v :=
  ⟨fun h => ⟨fun i hi => by have := h i hi; rw [BitVec.getLsbD_and, Bool.and_eq_true] at this; exact this.1, fun i hi => by have := h i hi; rw [BitVec.getLsbD_and, Bool.and_eq_true] at this; exact this.2⟩,
    fun ⟨h, k⟩ i hi => by rw [BitVec.getLsbD_and, Bool.and_eq_true]; exact ⟨h i hi, k i hi⟩⟩
theorem or_eq_right {u v : BitVec 64} : u ||| v = v ↔ Sub u v :=
  ⟨fun h => h ▸ (sub_or.1 (Sub.refl (u ||| v))).1, fun h => Sub.antisymm (sub_or.2 ⟨h, Sub.refl v⟩) (sub_or.1 (Sub.refl (u ||| v))).2⟩
theorem and_eq_left {u v : BitVec 64} : u &&& v = u ↔ Sub u v :=
  ⟨fun h => h ▸ (sub_and.1 (Sub.refl (u &&& v))).2, fun h => Sub.antisymm (sub_and.1 (Sub.refl (u &&& v))).1 (sub_and.2 ⟨Sub.refl u, h⟩)⟩
end Go.Proofs.Ytbhfkhcedjgpdaa.Bits64
