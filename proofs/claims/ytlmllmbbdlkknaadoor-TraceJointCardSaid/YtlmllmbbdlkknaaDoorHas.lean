/- 'has' of the law: whether a number is in a row. Walked by hand. -/
import Derived.Test.YtlmllmbbdlkknaaDoorPx0
import Derived.WalkKit
import Derived.Sort.WalkA
namespace Go.Proofs.YtlmllmbbdlkknaaDoor.P
open Go Go.RowKit Go.Proofs.YtlmllmbbdlkknaaDoorW.PrintWords Go.Proofs.YtlmllmbbdlkknaaDoorW.PrintLast
def ext_24.f (l : List Int) (x : Int) : Option Bool := if l.length ≤ 1000 then some (decide (x ∈ l)) else none
set_option maxHeartbeats 1000000 in
set_option maxRecDepth 1000000 in
theorem ext_24.calls (A : Option Addr) (c : Nat) (l : List Int) (x : Int) (r : Bool) (w : World) (hr : Kd.C (Kd.int .i64) w A l.length l) (_hc : l.length ≤ c) (h : ext_24.f l x = some r) :
    Calls Tryd.prog 24 #[.slice A l.length c, .int .i64 x] w fun e w' => e = .returned (.bool r) ∧ Below w.heap.size w w' := by
  unfold ext_24.f at h
  split at h
  · rename_i hl
    obtain rfl := Option.some.inj h
    clear h
    generalize hn : l.length = n at hr _hc
    go_enter Tryd.func24, Tryd.ntmps24
    go_wp2
    go_loopw [5] (fun v wr => ∃ i : Nat, i ≤ n ∧ v = .int .i64 (i : Nat) ∧ (∀ j, (h : j < l.length) → j < i → l[j] ≠ x) ∧ Below w.heap.size w wr)
      (fun v _ => n - (Lib.intOf v).toNat)
    case atStart => exact ⟨0, Nat.zero_le _, rfl, fun _ _ h => absurd h (Nat.not_lt_zero _), Below.refl _ _⟩
    case round =>
      obtain ⟨i, hi, rfl, hne, hbw⟩ := hrel
      by_cases hlt : i < n
      · obtain ⟨ad, rfl, hd0⟩ := Kd.at_int (Kd.C_below hr hbw) (i : Int) (by omega) (by omega)
        have hil : i < l.length := by omega
        have hrd : rd l (i : Int) = l[i] := by simp [rd, hil]
        rw [hrd] at hd0
        simp only [Int.toNat_natCast] at hd0
        by_cases he : l[i] = x
        · have hb : (l[i] == x) = true := beq_iff_eq.2 he
          have hm : x ∈ l := he ▸ List.getElem_mem hil
          go_wp2
          go_ret
          exact ⟨by rw [decide_eq_true hm]; rfl, hbw⟩
        · have hb : (l[i] == x) = false := beq_eq_false_iff_ne.2 he
          go_wp2
          go_roundw
          case rel =>
            refine ⟨i + 1, by omega, by simp, fun j hj hji => ?_, hbw⟩
            by_cases e : j = i
            · subst e; exact he
            · exact hne j hj (by omega)
          case measure =>
            simp [Lib.intOf]
            omega
      · have hnm : ¬ x ∈ l := by
          intro hm
          obtain ⟨j, hj, e⟩ := List.getElem_of_mem hm
          exact hne j hj (by omega) e
        go_wp2
        go_ret
        exact ⟨by rw [decide_eq_false hnm]; rfl, hbw⟩
  · cases h
end Go.Proofs.YtlmllmbbdlkknaaDoor.P
