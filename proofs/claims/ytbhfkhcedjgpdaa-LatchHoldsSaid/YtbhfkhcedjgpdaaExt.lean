/- slices.Clone, slices.Delete: Go's own text of them is walked. -/
import Derived.Test.YtbhfkhcedjgpdaaPx0
import Derived.Test.YtbhfkhcedjgpdaaSlLib
import Derived.Deep.RegionLaw
import Derived.Shelf.RegionOpenPlain
import Derived.Lib.Walk
namespace Go.Proofs.Ytbhfkhcedjgpdaa.P
open Go Go.RowKit Go.Lib Go.Proofs.YtbhfkhcedjgpdaaW.PrintWords Go.Proofs.Ytbhfkhcedjgpdaa
set_option linter.unusedVariables false
theorem ext_46.info : (Try.prog.info? 3).map (fun i => (i.zero, i.size, i.bytes)) = some (some (.int .i64 0), 1, 8) := by kernel_rfl
def ext_46.f (l : List (Int)) : Option (List (Int)) := if l.length < 4398046511104 then some l else none
set_option maxHeartbeats 4000000 in
set_option maxRecDepth 100000 in
theorem ext_46.calls (A0 : Option Addr) (c0 : Nat) (l0 : List (Int)) (r : List (Int)) (w : World) (hr0 : Kd.C (Kd.int .i64) w A0 l0.length l0) (hc0 : l0.length ≤ c0) (h : ext_46.f l0 = some r) :
    Calls Try.prog 46 #[.slice A0 l0.length c0] w fun e w' => ∃ v0_ : Value, e = .returned (v0_) ∧ Kd.R (Kd.int .i64) 3 w' w.heap.size (fun _ => True) v0_ r ∧ Below w.heap.size w w' := by
  unfold ext_46.f at h
  by_cases hl : l0.length < 4398046511104
  · rw [if_pos hl] at h
    injection h with h
    subst h
    have q0 : ∀ (w : World) (a : Option Addr) (n c n' c' : Nat), (binOp .eql 26 (.slice a n c) (.slice none n' c')).run Try.prog w = .ok (.bool a.isNone) w := fun w a n c n' c' => Lib.run_eql_slice_nil w _ _ a n c n' c' Try.underlying26
    cases A0 with
    | none =>
      have h0 : l0 = [] := by
        rcases Nat.eq_zero_or_pos l0.length with h1 | h1
        · exact List.eq_nil_of_length_eq_zero h1
        · obtain ⟨ad, e, _⟩ := hr0.2.2 h1
          cases e
      subst h0
      clear hr0
      have h1 : Calls Try.prog 46 #[.slice none ([] : List (Int)).length c0] w fun e w' => e = .returned (.slice none 0 0) ∧ w' = w := by
        go_enter Try.func46, Try.ntmps46
        go_wp2
        go_ret
        exact ⟨rfl, rfl⟩
      refine h1.mono ?_
      rintro e w' ⟨rfl, rfl⟩
      exact ⟨_, rfl, Kd.R_nil _ _ _ _ _, Below.refl _ _⟩
    | some ad =>
      have HR0 : Aside0 (Kd.C (Kd.int .i64) w (some ad) l0.length l0) := ⟨hr0⟩
      have HL := Aside0.mk hl
      clear hr0 hl
      go_enter Try.func46, Try.ntmps46
      go_wp2_with ((at_builtin; refine Kd.R_append_rows (Kd.int .i64) (w0 := w) w.heap.size rfl (.tmp 5) (.tmp 6) 26 3 (.int .i64 0) 8 rfl Try.underlying26 ext_46.info rfl (by decide) (by omega) (.slice (some ⟨w.heap.size, 0, none⟩) 0 0) ([] : List (Int)) l0 (some ad) l0.length c0 (fun _ => True) (fun _ => False) ?aE rfl ?aO ?aR (fun _ _ h => h) (fun _ h => h.elim) ?aF ?aB ?aS ?aL ?_))
      case aO => exact ⟨fun _ _ => trivial, [], World.ownsRow_made w #[] 0 (Nat.le_refl _) (Nat.zero_le _) (by first | rfl | simp), Reps.none _ _⟩
      case aR => exact Kd.C_alloc HR0.out _
      case aE => rfl
      case aF => exact fun _ _ => trivial
      case aB => exact below_alloc (Below.refl _ _) _
      case aS => exact (below_size (below_alloc (Below.refl _ _) _))
      case aL => have := HL.out; simp only [List.length_nil]; omega
      intro v1 w1 ho hb hg hat
      go_wp2
      go_ret
      exact ⟨_, rfl, by simpa using ho, hb⟩
  · rw [if_neg hl] at h
    cases h

end Go.Proofs.Ytbhfkhcedjgpdaa.P
