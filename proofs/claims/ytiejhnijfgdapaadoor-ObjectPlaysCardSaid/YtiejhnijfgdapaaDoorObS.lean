/- The objects and the reference's objects over their contracts: what a call leaves as it was, of whatever else the caller holds. -/
import Derived.Test.YtiejhnijfgdapaaDoorPx6
import Derived.Test.YtiejhnijfgdapaaDoorPx7
import Derived.Test.YtiejhnijfgdapaaDoorPx9
import Derived.Test.YtiejhnijfgdapaaDoorDrop
namespace Go.Proofs.YtiejhnijfgdapaaDoor.P
open Go Go.RowKit Go.Proofs.YtiejhnijfgdapaaDoorW.PrintWords Go.Proofs.YtiejhnijfgdapaaDoorW.PrintLast Go.Proofs.YtiejhnijfgdapaaDoorW.PrintMore
set_option linter.unusedVariables false
abbrev own (u : Value) (k : Nat) : Prop := some k = u.ownBlock
abbrev own4 (u0 u1 u2 u3 : Value) (k : Nat) : Prop := own u0 k ∨ own u1 k ∨ own u2 k ∨ own u3 k
abbrev apart4 (u0 u1 u2 u3 : Value) : Prop := (∀ k, own u0 k → ¬ own u1 k) ∧ (∀ k, own u0 k → ¬ own u2 k) ∧ (∀ k, own u0 k → ¬ own u3 k) ∧ (∀ k, own u1 k → ¬ own u2 k) ∧ (∀ k, own u1 k → ¬ own u3 k) ∧ (∀ k, own u2 k → ¬ own u3 k)

def OSt (w0 w : World) (g : Nat) (S : Nat → Prop) (c0 : Int) (l0 : List Int) (c1 : Int) (l1 : List Int) (c2 : Int) (l2 : List Int) (c3 : Int) (l3 : List Int) : Prop :=
  ∃ u0 u1 u2 u3 : Value, w.heap[g]? = some (.cells #[.int .i64 c0, u0, .int .i64 c1, u1, .int .i64 c2, u2, .int .i64 c3, u3] 86 (0, 0)) ∧ (∀ k, S k ↔ own4 u0 u1 u2 u3 k ∨ k = g) ∧ (Kd.R (Kd.int .i64) 3 w w0.heap.size (own u0) u0 l0 ∧ Kd.R (Kd.int .i64) 3 w w0.heap.size (own u1) u1 l1 ∧ Kd.R (Kd.int .i64) 3 w w0.heap.size (own u2) u2 l2 ∧ Kd.R (Kd.int .i64) 3 w w0.heap.size (own u3) u3 l3) ∧ apart4 u0 u1 u2 u3 ∧ w0.heap.size ≤ g ∧ Below w0.heap.size w0 w
section
variable {w0 w : World} {g : Nat} {S : Nat → Prop} {c0 c1 c2 c3 : Int} {l0 l1 l2 l3 : List Int}
theorem OSt.bel (h : OSt w0 w g S c0 l0 c1 l1 c2 l2 c3 l3) : Below w0.heap.size w0 w := by
  obtain ⟨_, _, _, _, _, _, _, _, _, h⟩ := h
  exact h
theorem OSt.lt (h : OSt w0 w g S c0 l0 c1 l1 c2 l2 c3 l3) (k : Nat) (hk : S k) : k < w.heap.size := by
  obtain ⟨u0, u1, u2, u3, hg, hS, ⟨r0, r1, r2, r3⟩, _⟩ := h
  rcases (hS k).1 hk with (e | e | e | e) | e
  · exact Kd.R_lt r0 k e.symm
  · exact Kd.R_lt r1 k e.symm
  · exact Kd.R_lt r2 k e.symm
  · exact Kd.R_lt r3 k e.symm
  · rw [e]; exact blk_lt hg
theorem OSt.kept (h : OSt w0 w g S c0 l0 c1 l1 c2 l2 c3 l3) {w' : World} {T : Nat → Prop} (hk : Kept w w' T) (hd : ∀ k, S k → ¬ T k) (hb : Below w0.heap.size w0 w') : OSt w0 w' g S c0 l0 c1 l1 c2 l2 c3 l3 := by
  obtain ⟨u0, u1, u2, u3, hg, hS, ⟨r0, r1, r2, r3⟩, ha, g0, _⟩ := h
  exact ⟨u0, u1, u2, u3, blk_kept hg hk (hd g ((hS g).2 (.inr rfl))), hS, ⟨Kd.R_kept r0 hk (fun k e => hd k ((hS k).2 (.inl (.inl e)))), Kd.R_kept r1 hk (fun k e => hd k ((hS k).2 (.inl (.inr (.inl e))))), Kd.R_kept r2 hk (fun k e => hd k ((hS k).2 (.inl (.inr (.inr (.inl e)))))), Kd.R_kept r3 hk (fun k e => hd k ((hS k).2 (.inl (.inr (.inr (.inr e))))))⟩, ha, g0, hb⟩
theorem OSt.below (h : OSt w0 w g S c0 l0 c1 l1 c2 l2 c3 l3) {w' : World} (hb : Below w.heap.size w w') : OSt w0 w' g S c0 l0 c1 l1 c2 l2 c3 l3 :=
  h.kept (Kept.of_below hb (fun _ => False)) (fun _ _ hf => hf) (h.bel.trans (hb.mono h.bel.size))
end

/-- Behind a call of its own: what it owns then. -/
theorem OSt.step {w0 w w' : World} {g : Nat} {S : Nat → Prop} {u0 u1 u2 u3 u0' u1' u2' u3' : Value} {c0' c1' c2' c3' : Int} {l0' l1' l2' l3' : List Int} (hS : ∀ k, S k ↔ own4 u0 u1 u2 u3 k ∨ k = g) (g0 : w0.heap.size ≤ g)
    (h0 : Kd.R (Kd.int .i64) 3 w' w0.heap.size (fun k_ => ((own u0 k_ ∨ own u1 k_ ∨ own u2 k_ ∨ own u3 k_) ∨ w.heap.size ≤ k_) ∧ some k_ ≠ u1'.ownBlock ∧ some k_ ≠ u2'.ownBlock ∧ some k_ ≠ u3'.ownBlock) u0' l0') (h1 : Kd.R (Kd.int .i64) 3 w' w0.heap.size (fun k_ => ((own u0 k_ ∨ own u1 k_ ∨ own u2 k_ ∨ own u3 k_) ∨ w.heap.size ≤ k_) ∧ some k_ ≠ u0'.ownBlock ∧ some k_ ≠ u2'.ownBlock ∧ some k_ ≠ u3'.ownBlock) u1' l1') (h2 : Kd.R (Kd.int .i64) 3 w' w0.heap.size (fun k_ => ((own u0 k_ ∨ own u1 k_ ∨ own u2 k_ ∨ own u3 k_) ∨ w.heap.size ≤ k_) ∧ some k_ ≠ u0'.ownBlock ∧ some k_ ≠ u1'.ownBlock ∧ some k_ ≠ u3'.ownBlock) u2' l2') (h3 : Kd.R (Kd.int .i64) 3 w' w0.heap.size (fun k_ => ((own u0 k_ ∨ own u1 k_ ∨ own u2 k_ ∨ own u3 k_) ∨ w.heap.size ≤ k_) ∧ some k_ ≠ u0'.ownBlock ∧ some k_ ≠ u1'.ownBlock ∧ some k_ ≠ u2'.ownBlock) u3' l3')
    (hi : w'.heap[g]? = some (.cells #[.int .i64 c0', u0', .int .i64 c1', u1', .int .i64 c2', u2', .int .i64 c3', u3'] 86 (0, 0))) (hb : Below w0.heap.size w0 w') :
    ∃ S', OSt w0 w' g S' c0' l0' c1' l1' c2' l2' c3' l3' ∧ ∀ k, S' k → S k ∨ w.heap.size ≤ k := by
  refine ⟨fun k => own4 u0' u1' u2' u3' k ∨ k = g, ⟨u0', u1', u2', u3', hi, fun _ => Iff.rfl, ⟨Kd.R_tight rfl h0, Kd.R_tight rfl h1, Kd.R_tight rfl h2, Kd.R_tight rfl h3⟩,
    ⟨fun k e f => (h0.1 k e.symm).2.1 f, fun k e f => (h0.1 k e.symm).2.2.1 f, fun k e f => (h0.1 k e.symm).2.2.2 f, fun k e f => (h1.1 k e.symm).2.2.1 f, fun k e f => (h1.1 k e.symm).2.2.2 f, fun k e f => (h2.1 k e.symm).2.2.2 f⟩, g0, hb⟩, ?_⟩
  have up : ∀ k, ((own u0 k ∨ own u1 k ∨ own u2 k ∨ own u3 k) ∨ w.heap.size ≤ k) → S k ∨ w.heap.size ≤ k := fun k h => h.elim (fun h => .inl ((hS k).2 (.inl h))) .inr
  rintro k ((e | e | e | e) | e)
  · exact up k (h0.1 k e.symm).1
  · exact up k (h1.1 k e.symm).1
  · exact up k (h2.1 k e.symm).1
  · exact up k (h3.1 k e.symm).1
  · exact .inl ((hS k).2 (.inr e))

def QSt (w0 w : World) (g : Nat) (S : Nat → Prop) (c0 : Int) (l0 : List Int) (c1 : Int) (l1 : List Int) (c2 : Int) (l2 : List Int) (c3 : Int) (l3 : List Int) : Prop :=
  ∃ u0 u1 u2 u3 : Value, w.heap[g]? = some (.cells #[.int .i64 c0, .int .i64 c1, .int .i64 c2, .int .i64 c3, u0, u1, u2, u3] 55 (0, 0)) ∧ (∀ k, S k ↔ own4 u0 u1 u2 u3 k ∨ k = g) ∧ (Kd.Q (Kd.int .i64) 3 w w0.heap.size (own u0) u0 l0 ∧ Kd.Q (Kd.int .i64) 3 w w0.heap.size (own u1) u1 l1 ∧ Kd.Q (Kd.int .i64) 3 w w0.heap.size (own u2) u2 l2 ∧ Kd.Q (Kd.int .i64) 3 w w0.heap.size (own u3) u3 l3) ∧ apart4 u0 u1 u2 u3 ∧ w0.heap.size ≤ g ∧ Below w0.heap.size w0 w
section
variable {w0 w : World} {g : Nat} {S : Nat → Prop} {c0 c1 c2 c3 : Int} {l0 l1 l2 l3 : List Int}
theorem QSt.bel (h : QSt w0 w g S c0 l0 c1 l1 c2 l2 c3 l3) : Below w0.heap.size w0 w := by
  obtain ⟨_, _, _, _, _, _, _, _, _, h⟩ := h
  exact h
theorem QSt.lt (h : QSt w0 w g S c0 l0 c1 l1 c2 l2 c3 l3) (k : Nat) (hk : S k) : k < w.heap.size := by
  obtain ⟨u0, u1, u2, u3, hg, hS, ⟨r0, r1, r2, r3⟩, _⟩ := h
  rcases (hS k).1 hk with (e | e | e | e) | e
  · exact Kd.Q_lt r0 k e.symm
  · exact Kd.Q_lt r1 k e.symm
  · exact Kd.Q_lt r2 k e.symm
  · exact Kd.Q_lt r3 k e.symm
  · rw [e]; exact blk_lt hg
theorem QSt.kept (h : QSt w0 w g S c0 l0 c1 l1 c2 l2 c3 l3) {w' : World} {T : Nat → Prop} (hk : Kept w w' T) (hd : ∀ k, S k → ¬ T k) (hb : Below w0.heap.size w0 w') : QSt w0 w' g S c0 l0 c1 l1 c2 l2 c3 l3 := by
  obtain ⟨u0, u1, u2, u3, hg, hS, ⟨r0, r1, r2, r3⟩, ha, g0, _⟩ := h
  exact ⟨u0, u1, u2, u3, blk_kept hg hk (hd g ((hS g).2 (.inr rfl))), hS, ⟨Kd.Q_kept r0 hk (fun k e => hd k ((hS k).2 (.inl (.inl e)))), Kd.Q_kept r1 hk (fun k e => hd k ((hS k).2 (.inl (.inr (.inl e))))), Kd.Q_kept r2 hk (fun k e => hd k ((hS k).2 (.inl (.inr (.inr (.inl e)))))), Kd.Q_kept r3 hk (fun k e => hd k ((hS k).2 (.inl (.inr (.inr (.inr e))))))⟩, ha, g0, hb⟩
theorem QSt.below (h : QSt w0 w g S c0 l0 c1 l1 c2 l2 c3 l3) {w' : World} (hb : Below w.heap.size w w') : QSt w0 w' g S c0 l0 c1 l1 c2 l2 c3 l3 :=
  h.kept (Kept.of_below hb (fun _ => False)) (fun _ _ hf => hf) (h.bel.trans (hb.mono h.bel.size))
end

/-- Behind a call of its own: what it owns then. -/
theorem QSt.step {w0 w w' : World} {g : Nat} {S : Nat → Prop} {u0 u1 u2 u3 u0' u1' u2' u3' : Value} {c0' c1' c2' c3' : Int} {l0' l1' l2' l3' : List Int} (hS : ∀ k, S k ↔ own4 u0 u1 u2 u3 k ∨ k = g) (g0 : w0.heap.size ≤ g)
    (h0 : Kd.Q (Kd.int .i64) 3 w' w0.heap.size (fun k_ => ((own u0 k_ ∨ own u1 k_ ∨ own u2 k_ ∨ own u3 k_) ∨ w.heap.size ≤ k_) ∧ some k_ ≠ u1'.ownBlock ∧ some k_ ≠ u2'.ownBlock ∧ some k_ ≠ u3'.ownBlock) u0' l0') (h1 : Kd.Q (Kd.int .i64) 3 w' w0.heap.size (fun k_ => ((own u0 k_ ∨ own u1 k_ ∨ own u2 k_ ∨ own u3 k_) ∨ w.heap.size ≤ k_) ∧ some k_ ≠ u0'.ownBlock ∧ some k_ ≠ u2'.ownBlock ∧ some k_ ≠ u3'.ownBlock) u1' l1') (h2 : Kd.Q (Kd.int .i64) 3 w' w0.heap.size (fun k_ => ((own u0 k_ ∨ own u1 k_ ∨ own u2 k_ ∨ own u3 k_) ∨ w.heap.size ≤ k_) ∧ some k_ ≠ u0'.ownBlock ∧ some k_ ≠ u1'.ownBlock ∧ some k_ ≠ u3'.ownBlock) u2' l2') (h3 : Kd.Q (Kd.int .i64) 3 w' w0.heap.size (fun k_ => ((own u0 k_ ∨ own u1 k_ ∨ own u2 k_ ∨ own u3 k_) ∨ w.heap.size ≤ k_) ∧ some k_ ≠ u0'.ownBlock ∧ some k_ ≠ u1'.ownBlock ∧ some k_ ≠ u2'.ownBlock) u3' l3')
    (hi : w'.heap[g]? = some (.cells #[.int .i64 c0', .int .i64 c1', .int .i64 c2', .int .i64 c3', u0', u1', u2', u3'] 55 (0, 0))) (hb : Below w0.heap.size w0 w') :
    ∃ S', QSt w0 w' g S' c0' l0' c1' l1' c2' l2' c3' l3' ∧ ∀ k, S' k → S k ∨ w.heap.size ≤ k := by
  refine ⟨fun k => own4 u0' u1' u2' u3' k ∨ k = g, ⟨u0', u1', u2', u3', hi, fun _ => Iff.rfl, ⟨Kd.Q_tight rfl h0, Kd.Q_tight rfl h1, Kd.Q_tight rfl h2, Kd.Q_tight rfl h3⟩,
    ⟨fun k e f => (h0.1 k e.symm).2.1 f, fun k e f => (h0.1 k e.symm).2.2.1 f, fun k e f => (h0.1 k e.symm).2.2.2 f, fun k e f => (h1.1 k e.symm).2.2.1 f, fun k e f => (h1.1 k e.symm).2.2.2 f, fun k e f => (h2.1 k e.symm).2.2.2 f⟩, g0, hb⟩, ?_⟩
  have up : ∀ k, ((own u0 k ∨ own u1 k ∨ own u2 k ∨ own u3 k) ∨ w.heap.size ≤ k) → S k ∨ w.heap.size ≤ k := fun k h => h.elim (fun h => .inl ((hS k).2 (.inl h))) .inr
  rintro k ((e | e | e | e) | e)
  · exact up k (h0.1 k e.symm).1
  · exact up k (h1.1 k e.symm).1
  · exact up k (h2.1 k e.symm).1
  · exact up k (h3.1 k e.symm).1
  · exact .inl ((hS k).2 (.inr e))

theorem OSt.wait {w0 w : World} {g : Nat} {S : Nat → Prop} {c0 c1 c2 c3 : Int} {l0 l1 l2 l3 : List Int} (h : OSt w0 w g S c0 l0 c1 l1 c2 l2 c3 l3) (k : Nat) (id : Int) (n : Int) {c0' c1' c2' c3' : Int} {l0' l1' l2' l3' : List Int} (b : Bool) (er : Option Int) (hf : object_Objects_Wait.f k c0 l0 c1 l1 c2 l2 c3 l3 id n = some (b, er, c0', l0', c1', l1', c2', l2', c3', l3')) :
    Calls Tryd.prog 22 #[.pointer (some ⟨g, 0, none⟩), .int .i64 id, .int .i64 n] w fun e w' => e = .returned (.tuple #[.bool b, errW er]) ∧ (∃ S', OSt w0 w' g S' c0' l0' c1' l1' c2' l2' c3' l3' ∧ ∀ k, S' k → S k ∨ w.heap.size ≤ k) ∧ Kept w w' S := by
  obtain ⟨u0, u1, u2, u3, hg, hS, ⟨r0, r1_, r2_, r3_⟩, ⟨a01, a02, a03, a12, a13, a23⟩, g0, hb⟩ := h
  have hc := object_Objects_Wait.calls k g c0 (fun k_ => some k_ = u0.ownBlock) u0 l0 c1 (fun k_ => some k_ = u1.ownBlock) u1 l1 c2 (fun k_ => some k_ = u2.ownBlock) u2 l2 c3 (fun k_ => some k_ = u3.ownBlock) u3 l3 id n b er c0' l0' c1' l1' c2' l2' c3' l3' w0 w hg g0 hb r0 a01 a02 a03 r1_ (fun k e f => a01 k f e) a12 a13 r2_ (fun k e f => a02 k f e) (fun k e f => a12 k f e) a23 r3_ (fun k e f => a03 k f e) (fun k e f => a13 k f e) (fun k e f => a23 k f e) hf
  refine hc.mono ?_
  rintro e w' ⟨u0', u1', u2', u3', rfl, h0, h1, h2, h3, hi, hb', hk⟩
  exact ⟨rfl, OSt.step hS g0 h0 h1 h2 h3 hi hb', hk.mono (fun k h => (hS k).2 h)⟩

theorem OSt.signal {w0 w : World} {g : Nat} {S : Nat → Prop} {c0 c1 c2 c3 : Int} {l0 l1 l2 l3 : List Int} (h : OSt w0 w g S c0 l0 c1 l1 c2 l2 c3 l3) (n : Int) {c0' c1' c2' c3' : Int} {l0' l1' l2' l3' : List Int} (x : Int) (b : Bool) (er : Option Int) (hf : object_Objects_Signal.f c0 l0 c1 l1 c2 l2 c3 l3 n = some (x, b, er, c0', l0', c1', l1', c2', l2', c3', l3')) :
    Calls Tryd.prog 25 #[.pointer (some ⟨g, 0, none⟩), .int .i64 n] w fun e w' => e = .returned (.tuple #[.int .i64 x, .bool b, errW er]) ∧ (∃ S', OSt w0 w' g S' c0' l0' c1' l1' c2' l2' c3' l3' ∧ ∀ k, S' k → S k ∨ w.heap.size ≤ k) ∧ Kept w w' S := by
  obtain ⟨u0, u1, u2, u3, hg, hS, ⟨r0, r1_, r2_, r3_⟩, ⟨a01, a02, a03, a12, a13, a23⟩, g0, hb⟩ := h
  have hc := object_Objects_Signal.calls g c0 (fun k_ => some k_ = u0.ownBlock) u0 l0 c1 (fun k_ => some k_ = u1.ownBlock) u1 l1 c2 (fun k_ => some k_ = u2.ownBlock) u2 l2 c3 (fun k_ => some k_ = u3.ownBlock) u3 l3 n x b er c0' l0' c1' l1' c2' l2' c3' l3' w0 w hg g0 hb r0 a01 a02 a03 r1_ (fun k e f => a01 k f e) a12 a13 r2_ (fun k e f => a02 k f e) (fun k e f => a12 k f e) a23 r3_ (fun k e f => a03 k f e) (fun k e f => a13 k f e) (fun k e f => a23 k f e) hf
  refine hc.mono ?_
  rintro e w' ⟨u0', u1', u2', u3', rfl, h0, h1, h2, h3, hi, hb', hk⟩
  exact ⟨rfl, OSt.step hS g0 h0 h1 h2 h3 hi hb', hk.mono (fun k h => (hS k).2 h)⟩

theorem OSt.drop {w0 w : World} {g : Nat} {S : Nat → Prop} {c0 c1 c2 c3 : Int} {l0 l1 l2 l3 : List Int} (h : OSt w0 w g S c0 l0 c1 l1 c2 l2 c3 l3) (k : Nat) (id : Int) {c0' c1' c2' c3' : Int} {l0' l1' l2' l3' : List Int} (b : Bool) (hf : ext_27.f k c0 l0 c1 l1 c2 l2 c3 l3 id = some (b, c0', l0', c1', l1', c2', l2', c3', l3')) :
    Calls Tryd.prog 27 #[.pointer (some ⟨g, 0, none⟩), .int .i64 id] w fun e w' => e = .returned (.bool b) ∧ (∃ S', OSt w0 w' g S' c0' l0' c1' l1' c2' l2' c3' l3' ∧ ∀ k, S' k → S k ∨ w.heap.size ≤ k) ∧ Kept w w' S := by
  obtain ⟨u0, u1, u2, u3, hg, hS, ⟨r0, r1_, r2_, r3_⟩, ⟨a01, a02, a03, a12, a13, a23⟩, g0, hb⟩ := h
  have hc := ext_27.calls k g c0 (fun k_ => some k_ = u0.ownBlock) u0 l0 c1 (fun k_ => some k_ = u1.ownBlock) u1 l1 c2 (fun k_ => some k_ = u2.ownBlock) u2 l2 c3 (fun k_ => some k_ = u3.ownBlock) u3 l3 id b c0' l0' c1' l1' c2' l2' c3' l3' w0 w hg g0 hb r0 a01 a02 a03 r1_ (fun k e f => a01 k f e) a12 a13 r2_ (fun k e f => a02 k f e) (fun k e f => a12 k f e) a23 r3_ (fun k e f => a03 k f e) (fun k e f => a13 k f e) (fun k e f => a23 k f e) hf
  refine hc.mono ?_
  rintro e w' ⟨u0', u1', u2', u3', rfl, h0, h1, h2, h3, hi, hb', hk⟩
  exact ⟨rfl, OSt.step hS g0 h0 h1 h2 h3 hi hb', hk.mono (fun k h => (hS k).2 h)⟩

theorem OSt.count {w0 w : World} {g : Nat} {S : Nat → Prop} {c0 c1 c2 c3 : Int} {l0 l1 l2 l3 : List Int} (h : OSt w0 w g S c0 l0 c1 l1 c2 l2 c3 l3) (n : Int) {c0' c1' c2' c3' : Int} {l0' l1' l2' l3' : List Int} (x : Int) (hf : object_Objects_Count.f c0 l0 c1 l1 c2 l2 c3 l3 n = some (x, c0', l0', c1', l1', c2', l2', c3', l3')) :
    Calls Tryd.prog 29 #[.pointer (some ⟨g, 0, none⟩), .int .i64 n] w fun e w' => e = .returned (.int .i64 x) ∧ (∃ S', OSt w0 w' g S' c0' l0' c1' l1' c2' l2' c3' l3' ∧ ∀ k, S' k → S k ∨ w.heap.size ≤ k) ∧ Kept w w' S := by
  obtain ⟨u0, u1, u2, u3, hg, hS, ⟨r0, r1_, r2_, r3_⟩, ⟨a01, a02, a03, a12, a13, a23⟩, g0, hb⟩ := h
  have hc := object_Objects_Count.calls g c0 (fun k_ => some k_ = u0.ownBlock) u0 l0 c1 (fun k_ => some k_ = u1.ownBlock) u1 l1 c2 (fun k_ => some k_ = u2.ownBlock) u2 l2 c3 (fun k_ => some k_ = u3.ownBlock) u3 l3 n x c0' l0' c1' l1' c2' l2' c3' l3' w0 w hg g0 hb r0 a01 a02 a03 r1_ (fun k e f => a01 k f e) a12 a13 r2_ (fun k e f => a02 k f e) (fun k e f => a12 k f e) a23 r3_ (fun k e f => a03 k f e) (fun k e f => a13 k f e) (fun k e f => a23 k f e) hf
  refine hc.mono ?_
  rintro e w' ⟨u0', u1', u2', u3', rfl, h0, h1, h2, h3, hi, hb', hk⟩
  exact ⟨rfl, OSt.step hS g0 h0 h1 h2 h3 hi hb', hk.mono (fun k h => (hS k).2 h)⟩

theorem OSt.row {w0 w : World} {g : Nat} {S : Nat → Prop} {c0 c1 c2 c3 : Int} {l0 l1 l2 l3 : List Int} (h : OSt w0 w g S c0 l0 c1 l1 c2 l2 c3 l3) (n : Int) {c0' c1' c2' c3' : Int} {l0' l1' l2' l3' : List Int} (r1 : List Int) (hf : object_Objects_Row.f c0 l0 c1 l1 c2 l2 c3 l3 n = some (r1, c0', l0', c1', l1', c2', l2', c3', l3')) :
    Calls Tryd.prog 30 #[.pointer (some ⟨g, 0, none⟩), .int .i64 n] w fun e w' => ∃ A c, e = .returned (.slice A r1.length c) ∧ r1.length ≤ c ∧ Kd.C (Kd.int .i64) w' A r1.length r1 ∧ (∃ S', OSt w0 w' g S' c0' l0' c1' l1' c2' l2' c3' l3' ∧ ∀ k, S' k → S k ∨ w.heap.size ≤ k) ∧ Kept w w' S := by
  obtain ⟨u0, u1, u2, u3, hg, hS, ⟨r0, r1_, r2_, r3_⟩, ⟨a01, a02, a03, a12, a13, a23⟩, g0, hb⟩ := h
  have hc := object_Objects_Row.calls g c0 (fun k_ => some k_ = u0.ownBlock) u0 l0 c1 (fun k_ => some k_ = u1.ownBlock) u1 l1 c2 (fun k_ => some k_ = u2.ownBlock) u2 l2 c3 (fun k_ => some k_ = u3.ownBlock) u3 l3 n r1 c0' l0' c1' l1' c2' l2' c3' l3' w0 w hg g0 hb r0 a01 a02 a03 r1_ (fun k e f => a01 k f e) a12 a13 r2_ (fun k e f => a02 k f e) (fun k e f => a12 k f e) a23 r3_ (fun k e f => a03 k f e) (fun k e f => a13 k f e) (fun k e f => a23 k f e) hf
  refine hc.mono ?_
  rintro e w' ⟨z, u0', u1', u2', u3', rfl, hz, h0, h1, h2, h3, hi, hb', hk⟩
  obtain ⟨A, c, rfl, hc1, hC⟩ := Kd.R_reads hz
  exact ⟨A, c, rfl, hc1, hC, OSt.step hS g0 (Kd.R_mono h0 (fun k h => ⟨h.1, h.2.2⟩)) (Kd.R_mono h1 (fun k h => ⟨h.1, h.2.2⟩)) (Kd.R_mono h2 (fun k h => ⟨h.1, h.2.2⟩)) (Kd.R_mono h3 (fun k h => ⟨h.1, h.2.2⟩)) hi hb', hk.mono (fun k h => (hS k).2 h)⟩

theorem QSt.wait {w0 w : World} {g : Nat} {S : Nat → Prop} {c0 c1 c2 c3 : Int} {l0 l1 l2 l3 : List Int} (h : QSt w0 w g S c0 l0 c1 l1 c2 l2 c3 l3) (k : Nat) (id : Int) (n : Int) {c0' c1' c2' c3' : Int} {l0' l1' l2' l3' : List Int} (b : Bool) (x : Int) (hf : tontineref8_Objects_Wait.f k c0 c1 c2 c3 l0 l1 l2 l3 id n = some (b, x, c0', c1', c2', c3', l0', l1', l2', l3')) :
    Calls Tryd.prog 23 #[.pointer (some ⟨g, 0, none⟩), .int .i64 id, .int .i64 n] w fun e w' => e = .returned (.tuple #[.bool b, .int .i64 x]) ∧ (∃ S', QSt w0 w' g S' c0' l0' c1' l1' c2' l2' c3' l3' ∧ ∀ k, S' k → S k ∨ w.heap.size ≤ k) ∧ Kept w w' S := by
  obtain ⟨u0, u1, u2, u3, hg, hS, ⟨r0, r1_, r2_, r3_⟩, ⟨a01, a02, a03, a12, a13, a23⟩, g0, hb⟩ := h
  have hc := tontineref8_Objects_Wait.calls k g c0 c1 c2 c3 (fun k_ => some k_ = u0.ownBlock) u0 l0 (fun k_ => some k_ = u1.ownBlock) u1 l1 (fun k_ => some k_ = u2.ownBlock) u2 l2 (fun k_ => some k_ = u3.ownBlock) u3 l3 id n b x c0' c1' c2' c3' l0' l1' l2' l3' w0 w hg g0 hb r0 a01 a02 a03 r1_ (fun k e f => a01 k f e) a12 a13 r2_ (fun k e f => a02 k f e) (fun k e f => a12 k f e) a23 r3_ (fun k e f => a03 k f e) (fun k e f => a13 k f e) (fun k e f => a23 k f e) hf
  refine hc.mono ?_
  rintro e w' ⟨u0', u1', u2', u3', rfl, h0, h1, h2, h3, hi, hb', hk⟩
  exact ⟨rfl, QSt.step hS g0 h0 h1 h2 h3 hi hb', hk.mono (fun k h => (hS k).2 h)⟩

theorem QSt.drop {w0 w : World} {g : Nat} {S : Nat → Prop} {c0 c1 c2 c3 : Int} {l0 l1 l2 l3 : List Int} (h : QSt w0 w g S c0 l0 c1 l1 c2 l2 c3 l3) (k : Nat) (id : Int) {c0' c1' c2' c3' : Int} {l0' l1' l2' l3' : List Int} (b : Bool) (hf : tontineref8_Objects_Drop.f k c0 c1 c2 c3 l0 l1 l2 l3 id = some (b, c0', c1', c2', c3', l0', l1', l2', l3')) :
    Calls Tryd.prog 28 #[.pointer (some ⟨g, 0, none⟩), .int .i64 id] w fun e w' => e = .returned (.bool b) ∧ (∃ S', QSt w0 w' g S' c0' l0' c1' l1' c2' l2' c3' l3' ∧ ∀ k, S' k → S k ∨ w.heap.size ≤ k) ∧ Kept w w' S := by
  obtain ⟨u0, u1, u2, u3, hg, hS, ⟨r0, r1_, r2_, r3_⟩, ⟨a01, a02, a03, a12, a13, a23⟩, g0, hb⟩ := h
  have hc := tontineref8_Objects_Drop.calls k g c0 c1 c2 c3 (fun k_ => some k_ = u0.ownBlock) u0 l0 (fun k_ => some k_ = u1.ownBlock) u1 l1 (fun k_ => some k_ = u2.ownBlock) u2 l2 (fun k_ => some k_ = u3.ownBlock) u3 l3 id b c0' c1' c2' c3' l0' l1' l2' l3' w0 w hg g0 hb r0 a01 a02 a03 r1_ (fun k e f => a01 k f e) a12 a13 r2_ (fun k e f => a02 k f e) (fun k e f => a12 k f e) a23 r3_ (fun k e f => a03 k f e) (fun k e f => a13 k f e) (fun k e f => a23 k f e) hf
  refine hc.mono ?_
  rintro e w' ⟨u0', u1', u2', u3', rfl, h0, h1, h2, h3, hi, hb', hk⟩
  exact ⟨rfl, QSt.step hS g0 h0 h1 h2 h3 hi hb', hk.mono (fun k h => (hS k).2 h)⟩

end Go.Proofs.YtiejhnijfgdapaaDoor.P
