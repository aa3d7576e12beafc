/- Code as the evaluator does it is what the model does: all but regions whose order is open. -/
import Derived.Test.YtjgdcifbhmjinaaEvU
namespace Go.Proofs.Ytjgdcifbhmjinaa.Ev
open Go

section
theorem get_leaf (m : Nat) : Tr.get .leaf m = U := rfl
theorem get_node (v : Val) (l r : Tr) (m : Nat) : Tr.get (.node v l r) m = if m = 0 then v else if m % 2 = 1 then l.get ((m - 1) / 2) else r.get ((m - 1) / 2) := by
  show Bool.rec (motive := fun _ => Val) (Bool.rec (motive := fun _ => Val) (r.get ((m - 1) / 2)) (l.get ((m - 1) / 2)) (Nat.beq (m % 2) 1)) v (Nat.beq m 0) = _
  by_cases h : m = 0
  · subst h; rfl
  · have h0 : Nat.beq m 0 = false := by
      cases hb : Nat.beq m 0 with
      | false => rfl
      | true => exact absurd (Nat.eq_of_beq_eq_true hb) h
    rw [h0, if_neg h]
    by_cases h2 : m % 2 = 1
    · rw [if_pos h2, h2]; rfl
    · have h1 : Nat.beq (m % 2) 1 = false := by
        cases hb : Nat.beq (m % 2) 1 with
        | false => rfl
        | true => exact absurd (Nat.eq_of_beq_eq_true hb) h2
      rw [if_neg h2, h1]
theorem one_succ (f n : Nat) (x : Val) : Tr.one (f + 1) n x = if n = 0 then .node x .leaf .leaf else if n % 2 = 1 then .node U (Tr.one f ((n - 1) / 2) x) .leaf else .node U .leaf (Tr.one f ((n - 1) / 2) x) := by
  show Bool.rec (motive := fun _ => Tr) (Bool.rec (motive := fun _ => Tr) (.node U .leaf (Tr.one f ((n - 1) / 2) x)) (.node U (Tr.one f ((n - 1) / 2) x) .leaf) (Nat.beq (n % 2) 1)) (.node x .leaf .leaf) (Nat.beq n 0) = _
  by_cases h : n = 0
  · subst h; rfl
  · have h0 : Nat.beq n 0 = false := by
      cases hb : Nat.beq n 0 with
      | false => rfl
      | true => exact absurd (Nat.eq_of_beq_eq_true hb) h
    rw [h0, if_neg h]
    by_cases h2 : n % 2 = 1
    · rw [if_pos h2, h2]; rfl
    · have h1 : Nat.beq (n % 2) 1 = false := by
        cases hb : Nat.beq (n % 2) 1 with
        | false => rfl
        | true => exact absurd (Nat.eq_of_beq_eq_true hb) h2
      rw [if_neg h2, h1]
theorem put_leaf (n : Nat) (x : Val) : Tr.put .leaf n x = Tr.one 16 n x := rfl
theorem put_node (v : Val) (l r : Tr) (n : Nat) (x : Val) : Tr.put (.node v l r) n x = if n = 0 then .node x l r else if n % 2 = 1 then .node v (l.put ((n - 1) / 2) x) r else .node v l (r.put ((n - 1) / 2) x) := by
  show Bool.rec (motive := fun _ => Tr) (Bool.rec (motive := fun _ => Tr) (.node v l (r.put ((n - 1) / 2) x)) (.node v (l.put ((n - 1) / 2) x) r) (Nat.beq (n % 2) 1)) (.node x l r) (Nat.beq n 0) = _
  by_cases h : n = 0
  · subst h; rfl
  · have h0 : Nat.beq n 0 = false := by
      cases hb : Nat.beq n 0 with
      | false => rfl
      | true => exact absurd (Nat.eq_of_beq_eq_true hb) h
    rw [h0, if_neg h]
    by_cases h2 : n % 2 = 1
    · rw [if_pos h2, h2]; rfl
    · have h1 : Nat.beq (n % 2) 1 = false := by
        cases hb : Nat.beq (n % 2) 1 with
        | false => rfl
        | true => exact absurd (Nat.eq_of_beq_eq_true hb) h2
      rw [if_neg h2, h1]
theorem get_one : ∀ (f n m : Nat) (x : Val), n + 1 < 2 ^ f → (Tr.one f n x).get m = if m = n then x else U
  | 0, n, m, x, h => by simp at h
  | f + 1, n, m, x, h => by
    have hp : 2 ^ (f + 1) = 2 ^ f + 2 ^ f := by rw [Nat.pow_succ]; omega
    rw [one_succ]
    by_cases h0 : n = 0
    · subst h0
      rw [if_pos rfl, get_node]
      by_cases hm : m = 0
      · rw [if_pos hm, if_pos hm]
      · rw [if_neg hm, if_neg hm, get_leaf]; split <;> rfl
    · rw [if_neg h0]
      by_cases h2 : n % 2 = 1
      · rw [if_pos h2, get_node, get_leaf, get_one f _ _ x (by omega)]
        by_cases hm : m = 0
        · rw [if_pos hm, if_neg (by omega)]
        · rw [if_neg hm]
          by_cases h3 : m % 2 = 1
          · rw [if_pos h3]
            by_cases e : m = n
            · rw [if_pos e, if_pos (by omega)]
            · rw [if_neg e, if_neg (by omega)]
          · rw [if_neg h3, if_neg (by omega)]
      · rw [if_neg h2, get_node, get_leaf, get_one f _ _ x (by omega)]
        by_cases hm : m = 0
        · rw [if_pos hm, if_neg (by omega)]
        · rw [if_neg hm]
          by_cases h3 : m % 2 = 1
          · rw [if_pos h3, if_neg (by omega)]
          · rw [if_neg h3]
            by_cases e : m = n
            · rw [if_pos e, if_pos (by omega)]
            · rw [if_neg e, if_neg (by omega)]
theorem get_put {t : Tr} {n m : Nat} {x : Val} (h : n < 65000) : (t.put n x).get m = if m = n then x else t.get m := by
  induction t generalizing n m with
  | leaf => rw [put_leaf, get_one 16 n m x (by omega), get_leaf]
  | node v l r ihl ihr =>
    rw [put_node]
    by_cases h0 : n = 0
    · subst h0
      rw [if_pos rfl, get_node, get_node]
      by_cases hm : m = 0
      · rw [if_pos hm, if_pos hm]
      · rw [if_neg hm, if_neg hm, if_neg hm]
    · rw [if_neg h0]
      by_cases h2 : n % 2 = 1
      · rw [if_pos h2, get_node, get_node, ihl (by omega)]
        by_cases hm : m = 0
        · rw [if_pos hm, if_neg (by omega), if_pos hm]
        · rw [if_neg hm, if_neg hm]
          by_cases h3 : m % 2 = 1
          · rw [if_pos h3, if_pos h3]
            by_cases e : m = n
            · rw [if_pos e, if_pos (by omega)]
            · rw [if_neg e, if_neg (by omega)]
          · rw [if_neg h3, if_neg h3, if_neg (by omega)]
      · rw [if_neg h2, get_node, get_node, ihr (by omega)]
        by_cases hm : m = 0
        · rw [if_pos hm, if_neg (by omega), if_pos hm]
        · rw [if_neg hm, if_neg hm]
          by_cases h3 : m % 2 = 1
          · rw [if_pos h3, if_pos h3, if_neg (by omega)]
          · rw [if_neg h3, if_neg h3]
            by_cases e : m = n
            · rw [if_pos e, if_pos (by omega)]
            · rw [if_neg e, if_neg (by omega)]
end

/-- The slots, as values of the model. -/
structure AR (ρ : Rho) (I : Im) (nt : Nat) (a : Tr) (act : Act) : Prop where
  size : act.tmps.size = nt
  few : nt ≤ 65000
  val : ∀ t, VR ρ I (a.get t) (act.tmps.getD t undef)
  still : act.defers = []

section
variable {P : Program} {ρ ρ' : Rho} {I I' : Im} {s s' : St} {w : World} {nt : Nat} {a a' : Tr} {act : Act}

theorem AR.mono (h : AR ρ I nt a act) (hl : Le ρ ρ') (hs : Sub I I') : AR ρ' I' nt a act := ⟨h.size, h.few, fun t => (h.val t).mono hl hs, h.still⟩

theorem AR.operand (h : AR ρ I nt a act) (x : Operand) : VR ρ I (evOperand a x) (act.eval x) := by
  cases x with
  | tmp t => exact h.val t
  | const v => exact .ofV v
  | global g => exact .sc
  | func f => exact (VR.fn .nil .nil : VR ρ I _ (.func (.func f) ([] : List Value).toArray ([] : List Value).toArray))

theorem AR.put (h : AR ρ I nt a act) {d : Option Nat} {v : Val} {x : Value} (hp : evPut nt a d v = some a') (hv : VR ρ I v x) : AR ρ I nt a' (act.put d x) := by
  cases d with
  | none =>
    simp only [evPut, Option.some.injEq] at hp
    subst hp
    exact h
  | some d =>
    simp only [evPut] at hp
    cases hb : Nat.ble (d + 1) nt with
    | false => rw [hb] at hp; cases hp
    | true =>
      rw [hb] at hp
      simp only [Option.some.injEq] at hp
      subst hp
      have hd := Nat.le_of_ble_eq_true hb
      have hf := h.few
      refine ⟨by simp [Act.put, h.size], h.few, fun t => ?_, h.still⟩
      rw [get_put (by omega)]
      simp only [Act.put]
      split
      · rename_i e
        subst e
        have : t < act.tmps.size := by rw [h.size]; omega
        simp [this, hv]
      · rename_i e
        have : (act.tmps.setIfInBounds d x).getD t undef = act.tmps.getD t undef := by
          simp [Array.getElem?_setIfInBounds_ne (fun h => e h.symm)]
        rw [this]
        exact h.val t

theorem VR.bool_left {v : Val} {b : Bool} (h : VR ρ I v (.bool b)) : v = .sc (.bool b) := by cases h; rfl

theorem yield_ok (h : AR ρ I nt a act) (ops : Array Oper) (j : Nat) : evYield ops a j = yielded ops act.tmps j := by
  unfold evYield yielded
  cases hd : (ops[j]?).bind (·.dst) with
  | none => rfl
  | some t =>
    simp only [Option.bind_some]
    have hv := h.val t
    rw [Array.getD_eq_getD_getElem?] at hv
    cases hx : act.tmps[t]? with
    | none =>
      rw [hx] at hv
      simp only [Option.getD_none] at hv
      generalize a.get t = u at hv
      split
      · rename_i b
        exfalso
        unfold undef at hv
        cases hv
      · rfl
    | some x =>
      rw [hx] at hv
      simp only [Option.getD_some] at hv
      generalize a.get t = u at hv
      split
      · rename_i b
        cases hv
        rfl
      · rename_i hne
        split
        · rename_i b hb
          simp only [Option.some.injEq] at hb
          subst hb
          exact absurd hv.bool_left (hne b)
        · rfl
theorem wanted_ok (h : AR ρ I nt a act) (ops : Array Oper) (o : Oper) : evWanted ops a o = Region.wanted o (yielded ops act.tmps) := by
  unfold evWanted Region.wanted
  cases hg : o.guard with
  | none => rfl
  | some g =>
    obtain ⟨j, b⟩ := g
    simp only [yield_ok h]
    cases yielded ops act.tmps j with
    | none => rfl
    | some c => simp

/-- What comes of code: slots, memory. -/
def CPost (ρ : Rho) (I : Im) (s s' : St) (nt : Nat) (a' : Tr) (act' : Act) (w' : World) : Prop :=
  ∃ ρ' I', Le ρ ρ' ∧ Sub I I' ∧ SR ρ' I' s'.mem w' ∧ AR ρ' I' nt a' act' ∧ (∀ id, ρ' id ≠ none → ρ id ≠ none ∨ s.next ≤ id ∧ id < s'.next)

theorem Free.left {s1 : St} (h : Free ρ s s') (h2 : s1.next ≤ s'.next) : Free ρ s s1 := fun id i1 i2 => h id i1 (Nat.lt_of_lt_of_le i2 h2)
theorem Free.right {s1 : St} (h : Free ρ s s') (h1 : s.next ≤ s1.next) (hd : ∀ id, ρ' id ≠ none → ρ id ≠ none ∨ s.next ≤ id ∧ id < s1.next) : Free ρ' s1 s' := fun id i1 i2 => by
  cases hr : ρ' id with
  | none => rfl
  | some ow =>
    rcases hd id (by rw [hr]; simp) with e | e
    · exact absurd (h id (by omega) i2) e
    · omega
theorem CPost.after {s1 : St} (hl : Le ρ ρ') (hs : Sub I I') (hd : ∀ id, ρ' id ≠ none → ρ id ≠ none ∨ s.next ≤ id ∧ id < s1.next) (h1 : s.next ≤ s1.next) (h2 : s1.next ≤ s'.next) {act' : Act} {w' : World}
    (h : CPost ρ' I' s1 s' nt a' act' w') : CPost ρ I s s' nt a' act' w' := by
  obtain ⟨ρ2, I2, p1, p2, p3, p4, p5⟩ := h
  refine ⟨ρ2, I2, hl.trans p1, hs.trans p2, p3, p4, fun id hid => ?_⟩
  rcases p5 id hid with e | e
  · rcases hd id e with e | e
    · exact .inl e
    · exact .inr ⟨e.1, by omega⟩
  · exact .inr ⟨by omega, e.2⟩

def toExit : Ex → Exit
  | .normal => .normal
  | .exit id => .exit id
  | .goto l => .goto l
  | .ret => .ret

theorem guarded_ok {call : CallF} (hc : CallOK P call) {ops : Array Oper} {o : Oper} {v : Val} (h : evGuarded P call ops a o s = some (v, s')) {s0 s0' : St} (h0 : evGuarded P call ops a o s0 = some (v, s0')) (hP : Pair s0 s0' s s') (hsr : SR ρ I s.mem w)
    (hf : Free ρ s s') (ha : AR ρ I nt a act) {K : Act → World → Prop} {Q : Exit → Act → World → Prop} (hK : ∀ x w', Post ρ I s s' v x w' → K (act.put o.dst x) w') :
    if Region.wanted o (yielded ops act.tmps) then o.wp P act w K Q ∨ (o.asks P act w ∧ LetsOut Q) else K (act.put o.dst undef) w := by
  unfold evGuarded at h h0
  simp only [evOpF_eq] at h h0
  rw [wanted_ok ha] at h h0
  cases hw : Region.wanted o (yielded ops act.tmps) with
  | true =>
    rw [hw] at h h0
    rw [if_pos rfl]
    refine .inl ?_
    unfold Oper.wp
    exact (evOp_ok hc h h0 hP hsr hf ha.operand).upon hK
  | false =>
    rw [hw] at h
    simp only [pure_some, Prod.mk.injEq] at h
    obtain ⟨rfl, rfl⟩ := h
    rw [if_neg (by decide)]
    exact hK _ _ (.same hsr rfl .sc)

theorem evOps_ok {call : CallF} (hc : CallOK P call) (hm : ∀ f args, Made (call f args)) {ops : Array Oper} {Q : Exit → Act → World → Prop} : ∀ (l : List Oper) (k : Nat), l = ops.toList.drop k → ∀ (a : Tr) (s : St) (a' : Tr) (s' : St),
    evOps P call nt ops l a s = some (a', s') → ∀ (s0 s0' : St), evOps P call nt ops l a s0 = some (a', s0') → Pair s0 s0' s s' → ∀ (ρ : Rho) (I : Im) (w : World) (act : Act), SR ρ I s.mem w → Free ρ s s' → AR ρ I nt a act →
    (∀ act' w', CPost ρ I s s' nt a' act' w' → Q .normal act' w') → wpOps P ops Q (List.range' k (ops.size - k)) act w := by
  intro l
  induction l with
  | nil =>
    intro k hl a s a' s' h s0 s0' _ _ ρ I w act hsr hf ha hQ
    simp only [evOps, pure_some, Prod.mk.injEq] at h
    obtain ⟨rfl, rfl⟩ := h
    have : ops.size ≤ k := by
      have := congrArg List.length hl
      simp at this
      omega
    rw [show ops.size - k = 0 by omega]
    exact hQ _ _ ⟨ρ, I, .refl _, .refl _, hsr, ha, fun _ h => .inl h⟩
  | cons o l ih =>
    intro k hl a s a' s' h s0 s0' h0 hP ρ I w act hsr hf ha hQ
    have hk : k < ops.size := by
      rcases Nat.lt_or_ge k ops.size with h | h
      · exact h
      · rw [List.drop_eq_nil_of_le (by simpa using h)] at hl
        cases hl
    have hk' : k < ops.toList.length := by simpa using hk
    rw [List.drop_eq_getElem_cons hk'] at hl
    obtain ⟨ho, hl⟩ := List.cons.inj hl
    have ho' : ops[k]? = some o := by rw [ho]; simp [hk]
    unfold evOps at h h0
    obtain ⟨v, s01, s1, h1, h2, h3, h4, P1, P2⟩ := pair_bind (Made.evGuarded (P := P) hm ops a o) (fun _ => Made.bind (.ofOpt _) (fun _ => Made.evOps hm nt ops l _)) h0 h hP
    simp only [bind_some, ofOpt_some] at h2 h4
    obtain ⟨a1, s2, ⟨hp, hs2⟩, h2⟩ := h2
    obtain ⟨a2, s3, ⟨hp', hs3⟩, h4⟩ := h4
    subst hs2 hs3
    rw [hp] at hp'
    obtain rfl := Option.some.inj hp'
    have m1 := (Made.evGuarded (P := P) hm ops a o).mono _ _ _ h3
    have m2 := (Made.evOps (P := P) hm nt ops l a1).mono _ _ _ h4
    rw [show ops.size - k = (ops.size - (k + 1)) + 1 by omega, List.range'_succ]
    simp only [wpOps, ho']
    refine guarded_ok hc h3 h1 P1 hsr (hf.left m2) ha (fun x w' hpost => ?_)
    obtain ⟨ρ1, I1, p1, p2, p3, p4, p5⟩ := hpost
    exact ih (k + 1) hl a1 s3 a' s' h4 s2 s0' h2 P2 ρ1 I1 w' _ p3 (hf.right m1 p5) ((ha.mono p1 p2).put hp p4) (fun act' w'' hcp => hQ _ _ (hcp.after p1 p2 p5 m1 m2))

theorem region_false {call : CallF} (hc : CallOK P call) (hm : ∀ f args, Made (call f args)) {id : Nat} {ops : Array Oper} {Q : Exit → Act → World → Prop} (h : evOps P call nt ops ops.toList a s = some (a', s')) {s0 s0' : St}
    (h0 : evOps P call nt ops ops.toList a s0 = some (a', s0')) (hP : Pair s0 s0' s s') (hsr : SR ρ I s.mem w) (hf : Free ρ s s')
    (ha : AR ρ I nt a act) (hQ : ∀ act' w', CPost ρ I s s' nt a' act' w' → Q .normal act' w') : (Code.region id ops false).wp P Q act w := by
  refine wp_region ?_
  have := evOps_ok hc hm ops.toList 0 rfl a s a' s' h s0 s0' h0 hP ρ I w act hsr hf ha hQ
  rwa [Nat.sub_zero, ← List.range_eq_range'] at this
end
end Go.Proofs.Ytjgdcifbhmjinaa.Ev
