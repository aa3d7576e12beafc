/- strconv.Itoa as a contract for the print: the shelf's, with the digits by plain recursion; the table of powers of ten stays as it is. -/
import Derived.Test.YtlmllmbbdlkknaaDoorShelf
import Derived.Test.YtlmllmbbdlkknaaDoorGoto
namespace Go.Proofs.YtlmllmbbdlkknaaDoor
open Go Go.RowKit
theorem Goto.kt {P : Program} {w w1 : World} {n : String} {k : IntKind} {zs : List Int} (hb : Below w.heap.size w w1) (h : Lib.TabIs P w n k zs) : Lib.TabIs P w1 n k zs := by
  unfold Lib.TabIs World.var? at *
  cases hg : P.globalNamed n with
  | none => rw [hg] at h; cases h
  | some g =>
    rw [hg] at h
    simp only [Option.bind_some] at h ⊢
    cases hw : w.heap[g]? with
    | none => rw [hw] at h; cases h
    | some o =>
      have hlt : g < w.heap.size := (Array.getElem?_eq_some_iff.1 hw).1
      rw [hb.block g hlt]
      exact h
theorem below_grow (w : World) (k : Nat) (os : Array Obj) : Below w.heap.size w (Sort.grow (w.drewN k) os) := by
  refine ⟨rfl, rfl, rfl, ?_, fun i hi => ?_⟩
  · simp [Sort.grow]
  · show (w.heap ++ os)[i]? = _
    exact Array.getElem?_append_left hi
namespace P
def digF : Nat → Nat → List UInt8
  | 0, u => [UInt8.ofNat (48 + u)]
  | n + 1, u => if u < 10 then [UInt8.ofNat (48 + u)] else digF n (u / 10) ++ [UInt8.ofNat (48 + u % 10)]
theorem digF_eq : ∀ (n u : Nat), u < 10 ^ (n + 1) → digF n u = Lib.decDigits u
  | 0, u, h => by
    rw [Lib.decDigits, dif_pos (by simpa using h)]
    rfl
  | n + 1, u, h => by
    unfold digF
    by_cases h1 : u < 10
    · rw [if_pos h1, Lib.decDigits, dif_pos h1]
    · rw [if_neg h1, Lib.decDigits, dif_neg h1, digF_eq n (u / 10) (by rw [Nat.pow_succ] at h; omega)]
def itoaF (x : Int) : List UInt8 := if x < 0 then 45 :: digF 19 x.natAbs else digF 19 x.toNat
theorem itoaF_eq (x : Int) (h : -9223372036854775808 ≤ x ∧ x ≤ 9223372036854775807) : itoaF x = Lib.itoa x := by
  unfold itoaF Lib.itoa
  have h20 : (10 : Nat) ^ (19 + 1) = 100000000000000000000 := by decide
  by_cases hx : x < 0
  · rw [if_pos hx, if_pos hx, digF_eq 19 _ (by omega)]
  · rw [if_neg hx, if_neg hx, digF_eq 19 _ (by omega)]
def ext_33.f (x : Int) : Option ByteArray := if -9223372036854775808 ≤ x ∧ x ≤ 9223372036854775807 then some ⟨(itoaF x).toArray⟩ else none
theorem ext_33.calls (x : Int) (r : ByteArray) (w : World) (hld : Lib.TabIs Tryd.prog w "internal/strconv.uint64pow10" .u64 Lib.pow10Tab) (h : ext_33.f x = some r) :
    Calls Tryd.prog 33 #[.int .i64 x] w fun e w' => e = .returned (.string r) ∧ Below w.heap.size w w' := by
  unfold ext_33.f at h
  split at h
  · rename_i hx
    obtain rfl := Option.some.inj h
    rw [itoaF_eq x hx]
    refine (Tryd.strconv_Itoa x hx.1 hx.2 w hld).mono ?_
    rintro e w' ⟨rfl, k, os, rfl⟩
    exact ⟨rfl, below_grow w k os⟩
  · cases h
end P
end Go.Proofs.YtlmllmbbdlkknaaDoor
