/- What 'code' tells of an error: nothing's number is 0, an Errno's is itself. Its text is walked; errors.As by its contract. Asked: the variable errors.errorType holds what it is laid with. -/
import Derived.Test.YtiejhnijfgdapaaDoorAs
import Derived.Test.YtiejhnijfgdapaaDoorWWords
import Derived.Test.YtiejhnijfgdapaaDoorPx0
import Derived.Below
namespace Go.Proofs.YtiejhnijfgdapaaDoor.P
open Go Go.RowKit Go.Proofs.YtiejhnijfgdapaaDoorW.PrintWords
def ext_24.f (a0 : Option Int) : Option Int := some (match a0 with | none => 0 | some n => n)
set_option maxHeartbeats 1000000 in
theorem ext_24.nil (w : World) : Calls Tryd.prog 24 #[.nilIface] w fun e w' => e = .returned (.int .i64 0) ∧ Below w.heap.size w w' := by
  go_enter Tryd.func24, Tryd.ntmps24
  go_wp2
  go_ret
  exact ⟨rfl, (Below.refl _ _).alloc (Nat.le_refl _) _⟩
set_option maxHeartbeats 1000000 in
theorem ext_24.err (n : Int) (w : World) (hl : w.cell? ⟨0, 0, none⟩ = some (.iface 108 (.agg #[.pointer (some ⟨1, 43, none⟩)]))) : Calls Tryd.prog 24 #[.iface 71 (.int .i64 n)] w fun e w' => e = .returned (.int .i64 n) ∧ Below w.heap.size w w' := by
  have hn := run_eql_iface_nil_left (P := Tryd.prog) w 71 (.int .i64 n) Tryd.underlying43
  have hlt : 0 < w.heap.size := by
    rcases Nat.eq_zero_or_pos w.heap.size with h0 | h
    · simp [World.cell?, h0] at hl
    · exact h
  go_enter Tryd.func24, Tryd.ntmps24
  go_wp2_with fail
  refine (As.hit n ⟨w.heap.size, 0, none⟩ (.int .i64 0) _ ?ca ?cb ?cc).mono ?_
  case ca => rw [World.cell?_alloc_lt _ _ ⟨0, 0, none⟩ hlt]; exact hl
  case cb => rw [World.cell?_alloc_at _ _ _ _ rfl]; rfl
  case cc => simp
  rintro e w1 ⟨rfl, hw1⟩
  have hc : w1.cell? ⟨w.heap.size, 0, none⟩ = some (.int .i64 n) := by
    rw [hw1]; unfold As.behind
    exact World.cell?_setCell_same' _ _ _ (by
      rw [World.cell?_alloc_lt _ _ ⟨w.heap.size, 0, none⟩ (by first | omega | (simp; done) | (simp; omega)), World.cell?_alloc_lt _ _ ⟨w.heap.size, 0, none⟩ (by first | omega | (simp; done) | (simp; omega)), World.cell?_alloc_lt _ _ ⟨w.heap.size, 0, none⟩ (by first | omega | (simp; done) | (simp; omega)), World.cell?_alloc_lt _ _ ⟨w.heap.size, 0, none⟩ (by first | omega | (simp; done) | (simp; omega)), World.cell?_alloc_at _ _ _ _ rfl]; rfl)
  have hB : Below w.heap.size w w1 := by
    rw [hw1]; unfold As.behind
    exact ((((((Below.refl _ _).alloc (Nat.le_refl _) _).alloc (by first | omega | (simp; done) | (simp; omega)) _).alloc (by first | omega | (simp; done) | (simp; omega)) _).alloc (by first | omega | (simp; done) | (simp; omega)) _).alloc (by first | omega | (simp; done) | (simp; omega)) _).setCell (by first | omega | (simp; done) | (simp; omega)) _
  clear hw1
  have HB := Aside0.mk hB
  clear hB
  go_wp2
  go_ret
  exact ⟨rfl, HB.out⟩
theorem ext_24.calls (a0 : Option Int) (r : Int) (w : World) (hl : w.cell? ⟨0, 0, none⟩ = some (.iface 108 (.agg #[.pointer (some ⟨1, 43, none⟩)]))) (h : ext_24.f a0 = some r) : Calls Tryd.prog 24 #[errW a0] w fun e w' => e = .returned (.int .i64 r) ∧ Below w.heap.size w w' := by
  cases a0 with
  | none => obtain rfl := Option.some.inj h; exact ext_24.nil w
  | some n => obtain rfl := Option.some.inj h; exact ext_24.err n w hl
end Go.Proofs.YtiejhnijfgdapaaDoor.P
