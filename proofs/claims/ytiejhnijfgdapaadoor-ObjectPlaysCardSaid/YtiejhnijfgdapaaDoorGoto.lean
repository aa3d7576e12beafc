/- Scopes with labels and gotos: what holds at a jump stands behind a name, and a loop by goto is proved by an invariant that bears a number, as the library's loops are. -/
import Derived.ScopeJumps
import Derived.Deep.LoopGhost
import Derived.Below
import Derived.Test.YtiejhnijfgdapaaDoorWWords
import Derived.Test.YtiejhnijfgdapaaDoorWLast
namespace Go.Proofs.YtiejhnijfgdapaaDoor.Goto
open Go Go.RowKit

/-- As Q; by a goto to label l: G l. -/
def Gotos (G : Nat → Act → World → Prop) (Q : Exit → Act → World → Prop) : Exit → Act → World → Prop
  | .goto l, a, w => G l a w
  | e, a, w => Q e a w

/-- What is needed to go on from label l inside scope c. -/
def wpAt (P : Program) (c : Code) (Q : Exit → Act → World → Prop) (l : Nat) (a : Act) (w : World) : Prop :=
  ∃ rest, findLabel c l = some rest ∧ ∀ (b : Frame) (k : List Item) (cs : List Frame),
    ∃ e a' w', Q e a' w' ∧ Arrives P (lone (b.at a (.code rest :: .inScope c :: k)) cs w) b k cs e a' w'

/-- A slot of a frame, by its number. -/
def slot : List Value → Nat → Value
  | [], _ => undef
  | x :: _, 0 => x
  | _ :: l, n + 1 => slot l n
theorem slot_zero (x : Value) (l : List Value) : slot (x :: l) 0 = x := rfl
theorem slot_succ (x : Value) (l : List Value) (n : Nat) : slot (x :: l) (n + 1) = slot l n := rfl

theorem kc {w w1 : World} (hb : Below w.heap.size w w1) {a : Addr} {v : Value} (h : w.cell? a = some v) : w1.cell? a = some v := (hb.cell (World.block_lt_of_cell? w _ h)).trans h
theorem m0 {p : Prop} (h : p) : Go.Proofs.YtiejhnijfgdapaaDoorW.PrintWords.Aside0 p := Go.Proofs.YtiejhnijfgdapaaDoorW.PrintWords.Aside0.mk h
section
variable {P : Program} {a : Act} {w : World} {Q : Exit → Act → World → Prop}

theorem scope_enter {c : Code} (h : c.wp P (Gotos (wpAt P c Q) Q) a w) : (Code.scope c).wp P Q a w := by
  intro b k cs
  obtain ⟨e, a₁, w₁, hq, harr⟩ := h b (.inScope c :: k) cs
  cases e with
  | normal => exact ⟨.normal, a₁, w₁, hq, .head step_scope (Steps.trans harr (.one step_inScope))⟩
  | exit id => exact ⟨.exit id, a₁, w₁, hq, fun k' hk => .head step_scope (harr k' (by simp [exitTo, hk]))⟩
  | goto l' =>
    obtain ⟨rest, hf, hr⟩ := hq
    have hg : gotoIn l' (.inScope c :: k) = some (.code rest :: .inScope c :: k) := by simp [gotoIn, hf]
    obtain ⟨e₂, a₂, w₂, hq₂, harr₂⟩ := hr b k cs
    exact ⟨e₂, a₂, w₂, hq₂, .of_steps (.head step_scope (harr _ hg)) harr₂⟩
  | ret => exact ⟨_, a₁, w₁, hq, .of_steps (.one step_scope) harr⟩
  | panic ch => exact ⟨_, a₁, w₁, hq, .of_steps (.one step_scope) harr⟩
  | outgrown => exact ⟨_, a₁, w₁, hq, .of_steps (.one step_scope) harr⟩

/-- From the rest behind a label (in the walk) to the place in the scope. -/
theorem wpAt_of {c rest : Code} {l : Nat} (hf : findLabel c l = some (.seq .skip rest)) (h : rest.wp P (Gotos (wpAt P c Q) Q) a w) : wpAt P c Q l a w := by
  refine ⟨_, hf, fun b k cs => ?_⟩
  obtain ⟨e, a₁, w₁, hq, harr⟩ := (wp_seq (wp_skip (Q := Exit.then (rest.wp P (Gotos (wpAt P c Q) Q)) (Gotos (wpAt P c Q) Q)) h)) b (.inScope c :: k) cs
  cases e with
  | normal => exact ⟨.normal, a₁, w₁, hq, Steps.trans harr (.one step_inScope)⟩
  | exit id => exact ⟨.exit id, a₁, w₁, hq, fun k' hk => harr k' (by simp [exitTo, hk])⟩
  | goto l' =>
    obtain ⟨rest', hf', hr⟩ := hq
    have hg : gotoIn l' (.inScope c :: k) = some (.code rest' :: .inScope c :: k) := by simp [gotoIn, hf']
    obtain ⟨e₂, a₂, w₂, hq₂, harr₂⟩ := hr b k cs
    exact ⟨e₂, a₂, w₂, hq₂, .of_steps (harr _ hg) harr₂⟩
  | ret => exact ⟨_, a₁, w₁, hq, harr⟩
  | panic ch => exact ⟨_, a₁, w₁, hq, harr⟩
  | outgrown => exact ⟨_, a₁, w₁, hq, harr⟩

/-- At a goto inside a round: the round hands on K; by another label: what stood outside. -/
def Jumps (l : Nat) (K : Act → World → Prop) (G : Nat → Act → World → Prop) (l' : Nat) (a : Act) (w : World) : Prop :=
  (l' = l ∧ K a w) ∨ G l' a w

theorem jump_hit {l : Nat} {K : Act → World → Prop} {G : Nat → Act → World → Prop} (h : K a w) : Gotos (Jumps l K G) Q (.goto l) a w := .inl ⟨rfl, h⟩

theorem ret_hit {G : Nat → Act → World → Prop} (h : Q .ret a w) : Gotos G Q .ret a w := h

/-- A loop by goto: an invariant that bears a number, which every jump lowers. `I` may speak of the frame as it stood when the label was come to first. -/
theorem label_ghost {c rest : Code} {l : Nat} {K₀ : Act → World → Prop} {Q₀ : Exit → Act → World → Prop} (hK : ∀ a w, rest.wp P (Gotos (wpAt P c Q) Q) a w → K₀ a w)
    (I : Act → Nat → Act → World → Prop) (n₀ : Nat) (hf : findLabel c l = some (.seq .skip rest)) (h₀ : I a n₀ a w)
    (round : ∀ n a' w', I a n a' w' → ∀ (J : Nat → Act → World → Prop) (K : Act → World → Prop), (∀ k a₁ w₁, I a k a₁ w₁ → J k a₁ w₁) → (∀ a₁ w₁, Handed J n a₁ w₁ → K a₁ w₁) →
      rest.wp P (Gotos (Jumps l K (wpAt P c Q)) Q) a' w') : (Code.label l).wp P (Exit.then K₀ Q₀) a w := by
  have key : ∀ n a' w', I a n a' w' → rest.wp P (Gotos (wpAt P c Q) Q) a' w' := by
    intro n
    induction n using Nat.strongRecOn with
    | _ n ih =>
      intro a' w' hI
      refine wp_mono (round n a' w' hI (I a) (fun a₁ w₁ => Handed (I a) n a₁ w₁) (fun _ _ _ h => h) (fun _ _ h => h)) ?_
      intro e a₁ w₁ hq
      cases e with
      | goto l' =>
        rcases hq with ⟨rfl, n', hlt, hI'⟩ | hq
        · exact wpAt_of hf (ih n' hlt a₁ w₁ hI')
        · exact hq
      | normal => exact hq
      | exit id => exact hq
      | ret => exact hq
      | panic ch => exact hq
      | outgrown => exact hq
  exact wp_label (hK _ _ (key n₀ a w h₀))

end
/-! ### What is told at each step, with its proof behind a default: the printed texts stay short. -/
section
variable {w w1 w2 W W1 : World} {g g2 : Nat} {o o1 : Obj}
theorem bx (k : Go.Proofs.YtiejhnijfgdapaaDoorW.PrintWords.Aside0 (w.heap[g]? = some o)) (h2 : w.heap[g]? = some o → w1.heap[g]? = some o1 := by (intro h; (repeat first | (with_reducible first | exact h | refine Go.Proofs.YtiejhnijfgdapaaDoorW.PrintWords.blk_drewN ?_ _ | refine Go.Proofs.YtiejhnijfgdapaaDoorW.PrintWords.blk_drew ?_ | refine Go.Proofs.YtiejhnijfgdapaaDoorW.PrintWords.blk_alloc ?_ _) | (refine Go.Proofs.YtiejhnijfgdapaaDoor.Goto.far ?_ (Go.Proofs.YtiejhnijfgdapaaDoorW.PrintWords.Aside0.out (by assumption)) _) | (with_reducible apply Go.Proofs.YtiejhnijfgdapaaDoorW.PrintWords.blk_put)); (first | done | exact h | all_goals first | (simp only [List.setIfInBounds_toArray, List.set_cons_zero, List.set_cons_succ]; done) | (simp only [List.setIfInBounds_toArray, List.set_cons_zero, List.set_cons_succ]; rfl) | rfl))) : w1.heap[g]? = some o1 := h2 k.out
theorem bb (k : Go.Proofs.YtiejhnijfgdapaaDoorW.PrintWords.Aside0 (w.heap[g]? = some o)) (hb : Below w1.heap.size w1 w2) (h2 : w.heap[g]? = some o → w1.heap[g]? = some o := by (intro h; (repeat first | (with_reducible first | exact h | refine Go.Proofs.YtiejhnijfgdapaaDoorW.PrintWords.blk_drewN ?_ _ | refine Go.Proofs.YtiejhnijfgdapaaDoorW.PrintWords.blk_drew ?_ | refine Go.Proofs.YtiejhnijfgdapaaDoorW.PrintWords.blk_alloc ?_ _) | (refine Go.Proofs.YtiejhnijfgdapaaDoor.Goto.far ?_ (Go.Proofs.YtiejhnijfgdapaaDoorW.PrintWords.Aside0.out (by assumption)) _) | (with_reducible apply Go.Proofs.YtiejhnijfgdapaaDoorW.PrintWords.blk_put)); (first | done | exact h | all_goals first | (simp only [List.setIfInBounds_toArray, List.set_cons_zero, List.set_cons_succ]; done) | (simp only [List.setIfInBounds_toArray, List.set_cons_zero, List.set_cons_succ]; rfl) | rfl))) : Go.Proofs.YtiejhnijfgdapaaDoorW.PrintWords.Aside0 (w2.heap[g]? = some o) := ⟨Go.Proofs.YtiejhnijfgdapaaDoorW.PrintWords.blk_below (h2 k.out) hb⟩
theorem hx (k : Go.Proofs.YtiejhnijfgdapaaDoorW.PrintWords.Aside0 (Below w.heap.size w W)) (h2 : Below w.heap.size w W → Below w.heap.size w W1 := by (intro h; repeat (first | (with_reducible first | exact h | apply Go.Proofs.YtiejhnijfgdapaaDoorW.PrintWords.below_alloc | apply Go.Proofs.YtiejhnijfgdapaaDoorW.PrintWords.pw_below_drewN | apply Go.Proofs.YtiejhnijfgdapaaDoorW.PrintWords.below_drew1 | refine Go.Proofs.YtiejhnijfgdapaaDoorW.PrintWords.below_set ?_ (Go.Proofs.YtiejhnijfgdapaaDoorW.PrintWords.Aside0.out (by assumption))) | exact h))) : Below w.heap.size w W1 := h2 k.out
theorem hs (k : Go.Proofs.YtiejhnijfgdapaaDoorW.PrintWords.Aside0 (Below w.heap.size w W)) (hb : Below W1.heap.size W1 w2) (h2 : Below w.heap.size w W → Below w.heap.size w W1 := by (intro h; repeat (first | (with_reducible first | exact h | apply Go.Proofs.YtiejhnijfgdapaaDoorW.PrintWords.below_alloc | apply Go.Proofs.YtiejhnijfgdapaaDoorW.PrintWords.pw_below_drewN | apply Go.Proofs.YtiejhnijfgdapaaDoorW.PrintWords.below_drew1 | refine Go.Proofs.YtiejhnijfgdapaaDoorW.PrintWords.below_set ?_ (Go.Proofs.YtiejhnijfgdapaaDoorW.PrintWords.Aside0.out (by assumption))) | exact h))) : Go.Proofs.YtiejhnijfgdapaaDoorW.PrintWords.Aside0 (Below w.heap.size w w2) := ⟨Go.Proofs.YtiejhnijfgdapaaDoorW.PrintWords.below_step (h2 k.out) hb⟩
theorem gs (k : Go.Proofs.YtiejhnijfgdapaaDoorW.PrintWords.Aside0 (Below w.heap.size w W)) (hg : g = W1.heap.size) (h2 : Below w.heap.size w W → Below w.heap.size w W1 := by (intro h; repeat (first | (with_reducible first | exact h | apply Go.Proofs.YtiejhnijfgdapaaDoorW.PrintWords.below_alloc | apply Go.Proofs.YtiejhnijfgdapaaDoorW.PrintWords.pw_below_drewN | apply Go.Proofs.YtiejhnijfgdapaaDoorW.PrintWords.below_drew1 | refine Go.Proofs.YtiejhnijfgdapaaDoorW.PrintWords.below_set ?_ (Go.Proofs.YtiejhnijfgdapaaDoorW.PrintWords.Aside0.out (by assumption))) | exact h))) : Go.Proofs.YtiejhnijfgdapaaDoorW.PrintWords.Aside0 (w.heap.size ≤ g) := ⟨by rw [hg]; exact Go.Proofs.YtiejhnijfgdapaaDoorW.PrintWords.below_size (h2 k.out)⟩
theorem ap {a a' : Act} (h : a = a' := by (simp only [Act.put, List.setIfInBounds_toArray, List.set_cons_zero, List.set_cons_succ, i64_w, i32_w]; rfl)) : a = a' := h
end
section
open Go.Proofs.YtiejhnijfgdapaaDoorW.PrintLast
variable {P : Program} {ops : Array Oper} {Q : Exit → Act → World → Prop} {md : Region.Mode} {S : World → Prop} {ds : List Nat}
end
theorem bc0 {w : World} {g : Nat} {t : TypeId} {x0 : Value} {xs : List Value} (h : Go.Proofs.YtiejhnijfgdapaaDoorW.PrintWords.Aside0 (w.heap[g]? = some (.cells (x0 :: xs).toArray t (0, 0)))) : w.cell? ⟨g, 0, none⟩ = some x0 := (Go.Proofs.YtiejhnijfgdapaaDoorW.PrintWords.blk_cell h.out 0).trans (by simp)
theorem bc1 {w : World} {g : Nat} {t : TypeId} {x0 x1 : Value} {xs : List Value} (h : Go.Proofs.YtiejhnijfgdapaaDoorW.PrintWords.Aside0 (w.heap[g]? = some (.cells (x0 :: x1 :: xs).toArray t (0, 0)))) : w.cell? ⟨g, 1, none⟩ = some x1 := (Go.Proofs.YtiejhnijfgdapaaDoorW.PrintWords.blk_cell h.out 1).trans (by simp)
theorem bc2 {w : World} {g : Nat} {t : TypeId} {x0 x1 x2 : Value} {xs : List Value} (h : Go.Proofs.YtiejhnijfgdapaaDoorW.PrintWords.Aside0 (w.heap[g]? = some (.cells (x0 :: x1 :: x2 :: xs).toArray t (0, 0)))) : w.cell? ⟨g, 2, none⟩ = some x2 := (Go.Proofs.YtiejhnijfgdapaaDoorW.PrintWords.blk_cell h.out 2).trans (by simp)
theorem bc3 {w : World} {g : Nat} {t : TypeId} {x0 x1 x2 x3 : Value} {xs : List Value} (h : Go.Proofs.YtiejhnijfgdapaaDoorW.PrintWords.Aside0 (w.heap[g]? = some (.cells (x0 :: x1 :: x2 :: x3 :: xs).toArray t (0, 0)))) : w.cell? ⟨g, 3, none⟩ = some x3 := (Go.Proofs.YtiejhnijfgdapaaDoorW.PrintWords.blk_cell h.out 3).trans (by simp)
theorem bc4 {w : World} {g : Nat} {t : TypeId} {x0 x1 x2 x3 x4 : Value} {xs : List Value} (h : Go.Proofs.YtiejhnijfgdapaaDoorW.PrintWords.Aside0 (w.heap[g]? = some (.cells (x0 :: x1 :: x2 :: x3 :: x4 :: xs).toArray t (0, 0)))) : w.cell? ⟨g, 4, none⟩ = some x4 := (Go.Proofs.YtiejhnijfgdapaaDoorW.PrintWords.blk_cell h.out 4).trans (by simp)
theorem bc5 {w : World} {g : Nat} {t : TypeId} {x0 x1 x2 x3 x4 x5 : Value} {xs : List Value} (h : Go.Proofs.YtiejhnijfgdapaaDoorW.PrintWords.Aside0 (w.heap[g]? = some (.cells (x0 :: x1 :: x2 :: x3 :: x4 :: x5 :: xs).toArray t (0, 0)))) : w.cell? ⟨g, 5, none⟩ = some x5 := (Go.Proofs.YtiejhnijfgdapaaDoorW.PrintWords.blk_cell h.out 5).trans (by simp)
theorem bc6 {w : World} {g : Nat} {t : TypeId} {x0 x1 x2 x3 x4 x5 x6 : Value} {xs : List Value} (h : Go.Proofs.YtiejhnijfgdapaaDoorW.PrintWords.Aside0 (w.heap[g]? = some (.cells (x0 :: x1 :: x2 :: x3 :: x4 :: x5 :: x6 :: xs).toArray t (0, 0)))) : w.cell? ⟨g, 6, none⟩ = some x6 := (Go.Proofs.YtiejhnijfgdapaaDoorW.PrintWords.blk_cell h.out 6).trans (by simp)
theorem bc7 {w : World} {g : Nat} {t : TypeId} {x0 x1 x2 x3 x4 x5 x6 x7 : Value} {xs : List Value} (h : Go.Proofs.YtiejhnijfgdapaaDoorW.PrintWords.Aside0 (w.heap[g]? = some (.cells (x0 :: x1 :: x2 :: x3 :: x4 :: x5 :: x6 :: x7 :: xs).toArray t (0, 0)))) : w.cell? ⟨g, 7, none⟩ = some x7 := (Go.Proofs.YtiejhnijfgdapaaDoorW.PrintWords.blk_cell h.out 7).trans (by simp)
/-- Which of n have come up, by a number's bits. -/
def bl : Nat → Nat → List Bool
  | 0, _ => []
  | n + 1, m => (m % 2 == 1) :: bl n (m / 2)
def bs (n m : Nat) : Array Bool := ⟨bl n m⟩
theorem er {α : Type} {a b : α} (h : a = b := by first | rfl | (simp [Go.Proofs.YtiejhnijfgdapaaDoor.P.errW_none, Go.Proofs.YtiejhnijfgdapaaDoor.P.errW_some] <;> rfl) | (simp [*, Go.Proofs.YtiejhnijfgdapaaDoor.P.errW_none, Go.Proofs.YtiejhnijfgdapaaDoor.P.errW_some] <;> rfl)) : a = b := h
theorem od {p : Prop} [Decidable p] (h : decide p = true := by first | (with_reducible assumption) | assumption) : p := of_decide_eq_true h
theorem bf {w : World} {g : Nat} {t : TypeId} {cs : Array Value} (h : Go.Proofs.YtiejhnijfgdapaaDoorW.PrintWords.Aside0 (w.heap[g]? = some (.cells cs t (0, 0)))) (i : Nat) : w.frozen? ⟨g, i, none⟩ = false := Go.Proofs.YtiejhnijfgdapaaDoorW.PrintWords.blk_frozen h.out i
theorem rk {α : Type} {d : Go.Proofs.YtiejhnijfgdapaaDoorW.PrintWords.Kd α} {e base : Nat} {w w1 : World} {ok : Nat → Prop} {v : Value} {xs : List α} (k : Go.Proofs.YtiejhnijfgdapaaDoorW.PrintWords.Aside0 (Go.Proofs.YtiejhnijfgdapaaDoorW.PrintWords.Kd.R d e w base ok v xs)) (h2 : Go.Proofs.YtiejhnijfgdapaaDoorW.PrintWords.Kd.R d e w base ok v xs → Go.Proofs.YtiejhnijfgdapaaDoorW.PrintWords.Kd.R d e w1 base ok v xs := by (intro h; (with_reducible repeat (first | exact h | apply Go.Proofs.YtiejhnijfgdapaaDoorW.PrintWords.Kd.R_alloc | apply Go.Proofs.YtiejhnijfgdapaaDoorW.PrintWords.Kd.R_drewN | apply Go.Proofs.YtiejhnijfgdapaaDoorW.PrintWords.Kd.R_drew)))) : Go.Proofs.YtiejhnijfgdapaaDoorW.PrintWords.Kd.R d e w1 base ok v xs := h2 k.out
section
open Go.Proofs.YtiejhnijfgdapaaDoorW.PrintLast
variable {P : Program} {ops : Array Oper} {Q : Exit → Act → World → Prop} {md : Region.Mode} {S : World → Prop} {ds : List Nat}
theorem pu (i N n m : Nat) {oi : Oper} {v : Value} {fuel : Nat} {l : Array Bool} {a a' : Act} {w : World} (h : wpAnyLast P md ops Q S ds fuel (bs n m) a' w) (hi : ops[i]? = some oi := by rfl) (hN : oi.dst = some N := by rfl)
    (hc : anyB md ops l (bs n m) i = true := by (refine Go.Proofs.YtiejhnijfgdapaaDoorW.PrintLast.any_of (Go.Proofs.YtiejhnijfgdapaaDoorW.PrintWords.Aside0.out (by with_reducible assumption)) (by kernel_rfl))) (hQ : ∀ c a w, Q (.panic c) (a.put oi.dst v) w → Q (.panic c) a w := by (exact fun _ _ _ h => h))
    (hy : Yields P ops oi v a := by (refine Or.inl ⟨by rfl, ?_⟩; intro w'; go_simp; with_reducible rfl)) (ha : a.put (some N) v = a' := by (exact Go.Proofs.YtiejhnijfgdapaaDoor.Goto.ap)) : wpAnyLast P md ops Q S ds (fuel + 1) l a w := pure_ (bs n m) hi hN hc hQ hy ha h
end
section
variable {P : Program} {ops : Array Oper} {Q : Exit → Act → World → Prop}
end
end Go.Proofs.YtiejhnijfgdapaaDoor.Goto
