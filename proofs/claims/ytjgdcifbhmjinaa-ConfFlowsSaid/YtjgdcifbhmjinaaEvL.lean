/- What the evaluator does hangs on what it touches alone. -/
import Derived.Test.YtjgdcifbhmjinaaEvO
namespace Go.Proofs.Ytjgdcifbhmjinaa.Ev
open Go

/-- The blocks that a run may look at or change: those that it tells, and those made since the part began. -/
def Touch (s s' : St) (id : Nat) : Prop := id ∈ s'.rd ∨ id ∈ s'.wr ∨ (s.base ≤ id ∧ id < s'.next)
def Alter (s s' : St) (id : Nat) : Prop := id ∈ s'.wr ∨ (s.base ≤ id ∧ id < s'.next)
def Inv (s : St) : Prop := ∀ id c, look id s.mem = some c → id < s.next

structure Loc (s s' : St) : Prop where
  base : s'.base = s.base
  next : s.next ≤ s'.next
  inv : Inv s'
  rd : ∀ id ∈ s.rd, id ∈ s'.rd
  wr : ∀ id ∈ s.wr, id ∈ s'.wr
  rdOld : ∀ id ∈ s'.rd, id ∈ s.rd ∨ id < s.base
  wrOld : ∀ id ∈ s'.wr, id ∈ s.wr ∨ id < s.base
  same : ∀ id, id < s.base → id ∉ s'.wr → look id s'.mem = look id s.mem

def Local {α : Type} (p : M α) : Prop := ∀ s v s', p s = some (v, s') → s.base ≤ s.next → Inv s → Loc s s' ∧
  ∀ m, (∀ id, Touch s s' id → look id m = look id s.mem) → ∃ m', p { s with mem := m } = some (v, { s' with mem := m' }) ∧
    (∀ id, Touch s s' id → look id m' = look id s'.mem) ∧ (∀ id, ¬ Alter s s' id → look id m' = look id m)

theorem Loc.refl {s : St} (h : Inv s) : Loc s s := ⟨rfl, Nat.le_refl _, h, fun _ h => h, fun _ h => h, fun _ h => .inl h, fun _ h => .inl h, fun _ _ _ => rfl⟩
theorem Loc.trans {s s1 s2 : St} (h : Loc s s1) (h' : Loc s1 s2) : Loc s s2 :=
  ⟨h'.base.trans h.base, Nat.le_trans h.next h'.next, h'.inv, fun id e => h'.rd id (h.rd id e), fun id e => h'.wr id (h.wr id e),
   fun id e => by rcases h'.rdOld id e with e | e
                  · exact h.rdOld id e
                  · exact .inr (h.base ▸ e),
   fun id e => by rcases h'.wrOld id e with e | e
                  · exact h.wrOld id e
                  · exact .inr (h.base ▸ e),
   fun id e e' => (h'.same id (h.base.symm ▸ e) e').trans (h.same id e (fun h1 => e' (h'.wr id h1)))⟩

section
variable {α β : Type}
theorem Local.pure (a : α) : Local (Pure.pure a : M α) := by
  intro s v s' h hb hi
  rw [pure_some] at h
  simp only [Prod.mk.injEq] at h
  obtain ⟨rfl, rfl⟩ := h
  exact ⟨.refl hi, fun m hm => ⟨m, rfl, hm, fun _ _ => rfl⟩⟩
theorem Local.fail : Local (Ev.fail : M α) := by
  intro s v s' h
  rw [fail_some] at h
  exact h.elim
theorem Local.ofOpt (o : Option α) : Local (Ev.ofOpt o) := by
  cases o with
  | none => exact Local.fail
  | some a => exact Local.pure a
theorem Local.must (b : Bool) : Local (Ev.must b) := by
  cases b with
  | false => exact Local.fail
  | true => exact Local.pure ()
theorem Local.bind {p : M α} {f : α → M β} (hp : Local p) (hf : ∀ a, Local (f a)) : Local (p >>= f) := by
  intro s v s' h hb hi
  rw [bind_some] at h
  obtain ⟨a, s1, h1, h2⟩ := h
  obtain ⟨l1, k1⟩ := hp _ _ _ h1 hb hi
  obtain ⟨l2, k2⟩ := hf a _ _ _ h2 (by rw [l1.base]; exact Nat.le_trans hb l1.next) l1.inv
  refine ⟨l1.trans l2, fun m hm => ?_⟩
  have t1 : ∀ id, Touch s s1 id → Touch s s' id := fun id h => by
    rcases h with h | h | ⟨h, h'⟩
    · exact .inl (l2.rd id h)
    · exact .inr (.inl (l2.wr id h))
    · exact .inr (.inr ⟨h, Nat.lt_of_lt_of_le h' l2.next⟩)
  have t2 : ∀ id, Touch s1 s' id ↔ Touch s s' id := fun id => by unfold Touch; rw [l1.base]
  have a2 : ∀ id, Alter s1 s' id ↔ Alter s s' id := fun id => by unfold Alter; rw [l1.base]
  have a1 : ∀ id, Alter s s1 id → Alter s s' id := fun id h => by
    rcases h with h | ⟨h, h'⟩
    · exact .inl (l2.wr id h)
    · exact .inr ⟨h, Nat.lt_of_lt_of_le h' l2.next⟩
  obtain ⟨m1, e1, e2, e3⟩ := k1 m (fun id h => hm id (t1 id h))
  have agree : ∀ id, Touch s s' id → look id m1 = look id s1.mem := fun id h => by
    by_cases ht : Touch s s1 id
    · exact e2 id ht
    · have na : ¬ Alter s s1 id := fun h => ht (by
        rcases h with h | h
        · exact .inr (.inl h)
        · exact .inr (.inr h))
      rw [e3 id na, hm id h]
      by_cases hid : id < s.base
      · exact (l1.same id hid (fun h => na (.inl h))).symm
      · have : s1.next ≤ id := by
          rcases Nat.lt_or_ge id s1.next with h1 | h1
          · exact absurd (.inr ⟨by omega, h1⟩) na
          · exact h1
        have n1 : look id s1.mem = none := by
          cases hl : look id s1.mem with
          | none => rfl
          | some c => have := l1.inv id c hl; omega
        have n2 : look id s.mem = none := by
          cases hl : look id s.mem with
          | none => rfl
          | some c => have := hi id c hl; have := l1.next; omega
        rw [n1, n2]
  obtain ⟨m2, e4, e5, e6⟩ := k2 m1 (fun id h => agree id ((t2 id).1 h))
  refine ⟨m2, ?_, fun id h => e5 id ((t2 id).2 h), fun id h => (e6 id (fun h' => h ((a2 id).1 h'))).trans (e3 id (fun h' => h (a1 id h')))⟩
  rw [bind_some]
  exact ⟨a, _, e1, e4⟩

theorem mem_note {base id j : Nat} {l : List Nat} : j ∈ note base id l ↔ j ∈ l ∨ (j = id ∧ id < base) := by
  have hh : ∀ l : List Nat, has id l = true ↔ id ∈ l := by
    intro l
    induction l with
    | nil => simp [has_nil]
    | cons k l ih =>
      rw [has_c]
      split
      · rename_i h; have := Nat.eq_of_beq_eq_true h; subst this; simp
      · rename_i h
        have := Nat.ne_of_beq_eq_false h
        rw [ih, List.mem_cons]
        exact ⟨.inr, fun h => h.resolve_left (fun e => this e.symm)⟩
  unfold note
  split
  · rename_i h
    have := Nat.le_of_ble_eq_true h
    exact ⟨.inl, fun h => h.resolve_right (fun h => by omega)⟩
  · rename_i h
    have hlt : id < base := by
      rcases Nat.lt_or_ge id base with h1 | h1
      · exact h1
      · rw [Nat.ble_eq_true_of_le h1] at h; cases h
    split
    · rename_i h1
      have := (hh l).1 h1
      exact ⟨.inl, fun h => by rcases h with h | ⟨rfl, _⟩ <;> assumption⟩
    · rw [List.mem_cons]
      exact ⟨fun h => h.elim (fun h => .inr ⟨h, hlt⟩) .inl, fun h => h.elim .inr (fun h => .inl h.1)⟩

theorem mem_joinN {base j : Nat} : ∀ {r l : List Nat}, j ∈ joinN base r l ↔ j ∈ l ∨ (j ∈ r ∧ j < base)
  | [], l => by simp [joinN_nil]
  | k :: r, l => by
    rw [joinN_c]
    rw [mem_joinN (r := r), mem_note, List.mem_cons]
    constructor
    · rintro ((h | ⟨rfl, h⟩) | ⟨h, h'⟩)
      · exact .inl h
      · exact .inr ⟨.inl rfl, h⟩
      · exact .inr ⟨.inr h, h'⟩
    · rintro (h | ⟨rfl | h, h'⟩)
      · exact .inl (.inl h)
      · exact .inl (.inr ⟨rfl, h'⟩)
      · exact .inr ⟨h, h'⟩

theorem Local.get (id : Nat) : Local (Ev.get id) := by
  intro s v s' h hb hi
  rw [get_some] at h
  obtain ⟨h1, h2⟩ := h
  simp only at h1 h2
  subst h2
  have lt := hi id v h1
  refine ⟨⟨rfl, Nat.le_refl _, hi, fun j h => mem_note.2 (.inl h), fun _ h => h, fun j h => (mem_note.1 h).elim .inl (fun h => .inr (h.1 ▸ h.2)), fun _ h => .inl h, fun _ _ _ => rfl⟩, fun m hm => ?_⟩
  have ht : Touch s { s with rd := note s.base id s.rd } id := by
    rcases Nat.lt_or_ge id s.base with h | h
    · exact .inl (mem_note.2 (.inr ⟨rfl, h⟩))
    · exact .inr (.inr ⟨h, lt⟩)
  refine ⟨m, ?_, fun j h => hm j h, fun _ _ => rfl⟩
  rw [get_some]
  exact ⟨by simp only; rw [hm id ht, h1], rfl⟩

theorem Local.set (id : Nat) (c : List Val) : Local (Ev.set id c) := by
  intro s v s' h hb hi
  rw [set_some] at h
  obtain ⟨⟨b, h1⟩, h2⟩ := h
  simp only at h2
  subst h2
  have lt := hi id b h1
  have ht : Alter s { s with mem := upd id c s.mem, wr := note s.base id s.wr } id := by
    rcases Nat.lt_or_ge id s.base with h | h
    · exact .inl (mem_note.2 (.inr ⟨rfl, h⟩))
    · exact .inr ⟨h, lt⟩
  refine ⟨⟨rfl, Nat.le_refl _, fun j d h => ?_, fun _ h => h, fun j h => mem_note.2 (.inl h), fun _ h => .inl h, fun j h => (mem_note.1 h).elim .inl (fun h => .inr (h.1 ▸ h.2)), fun j hj hn => ?_⟩, fun m hm => ?_⟩
  · simp only [look_upd] at h
    split at h
    · rename_i e; subst e; exact lt
    · exact hi j d h
  · simp only [look_upd]
    split
    · rename_i e; subst e; exact absurd (mem_note.2 (.inr ⟨rfl, hj⟩)) hn
    · rfl
  · have hid := hm id (ht.elim (fun h => .inr (.inl h)) (fun h => .inr (.inr h)))
    refine ⟨upd id c m, ?_, fun j h => ?_, fun j h => ?_⟩
    · rw [set_some]
      exact ⟨⟨b, by simp only; rw [hid, h1]⟩, rfl⟩
    · simp only [look_upd]
      rw [hm j h]
    · rw [look_upd]
      split
      · rename_i e; subst e; exact absurd ht h
      · rfl

theorem Local.kill (id : Nat) : Local (Ev.kill id) := by
  intro s v s' h hb hi
  rw [kill_some] at h
  obtain ⟨⟨b, h1⟩, h2⟩ := h
  simp only at h2
  subst h2
  have lt := hi id b h1
  have ht : Alter s { s with mem := del id s.mem, wr := note s.base id s.wr } id := by
    rcases Nat.lt_or_ge id s.base with h | h
    · exact .inl (mem_note.2 (.inr ⟨rfl, h⟩))
    · exact .inr ⟨h, lt⟩
  refine ⟨⟨rfl, Nat.le_refl _, fun j d h => ?_, fun _ h => h, fun j h => mem_note.2 (.inl h), fun _ h => .inl h, fun j h => (mem_note.1 h).elim .inl (fun h => .inr (h.1 ▸ h.2)), fun j hj hn => ?_⟩, fun m hm => ?_⟩
  · simp only [look_del] at h
    split at h
    · cases h
    · exact hi j d h
  · simp only [look_del]
    split
    · rename_i e; subst e; exact absurd (mem_note.2 (.inr ⟨rfl, hj⟩)) hn
    · rfl
  · have hid := hm id (ht.elim (fun h => .inr (.inl h)) (fun h => .inr (.inr h)))
    refine ⟨del id m, ?_, fun j h => ?_, fun j h => ?_⟩
    · rw [kill_some]
      exact ⟨⟨b, by simp only; rw [hid, h1]⟩, rfl⟩
    · simp only [look_del]
      rw [hm j h]
    · rw [look_del]
      split
      · rename_i e; subst e; exact absurd ht h
      · rfl

theorem Local.new (c : List Val) : Local (Ev.new c) := by
  intro s v s' h hb hi
  rw [new_some] at h
  simp only [Prod.mk.injEq] at h
  obtain ⟨rfl, rfl⟩ := h
  refine ⟨⟨rfl, Nat.le_succ _, fun j d h => ?_, fun _ h => h, fun _ h => h, fun _ h => .inl h, fun _ h => .inl h, fun j hj hn => ?_⟩, fun m hm => ⟨(s.next, c) :: m, rfl, fun j h => ?_, fun j h => ?_⟩⟩
  · simp only [look_cons] at h
    split at h
    · rename_i e; subst e; exact Nat.lt_succ_self _
    · exact Nat.lt_succ_of_lt (hi j d h)
  · simp only [look_cons]
    rw [if_neg (by omega)]
  · simp only [look_cons]
    rw [hm j h]
  · rw [look_cons, if_neg (fun e => h (.inr ⟨by subst e; exact hb, by subst e; exact Nat.lt_succ_self _⟩))]

/-- A part of its own, as seen from outside. -/
theorem inner {s s1 : St} {b : List Nat × List Nat} (hb : s.base ≤ s.next) (hl : Loc { s with base := s.next, rd := [], wr := [] } s1) (k : b = (joinN s.base s1.rd s.rd, joinN s.base s1.wr s.wr)) :
    Loc s ⟨s1.mem, s1.next, s.base, b.1, b.2⟩ := by
  subst k
  refine ⟨rfl, hl.next, hl.inv, fun j h => mem_joinN.2 (.inl h), fun j h => mem_joinN.2 (.inl h), fun j h => ?_, fun j h => ?_, fun j hj hn => ?_⟩
  · exact (mem_joinN.1 h).elim .inl (fun h => .inr h.2)
  · exact (mem_joinN.1 h).elim .inl (fun h => .inr h.2)
  · exact hl.same j (by simp only; omega) (fun h => hn (mem_joinN.2 (.inr ⟨h, hj⟩)))

theorem Local.fenced (i : Nat) {p : M α} (hp : Local p) : Local (Ev.fenced i p) := by
  intro s v s' h hb hi
  unfold Ev.fenced at h
  cases hq : p { s with base := s.next, rd := [], wr := [] } with
  | none => rw [hq] at h; cases h
  | some r =>
    obtain ⟨a, s1⟩ := r
    rw [hq] at h
    simp only [Option.some.injEq, Prod.mk.injEq] at h
    obtain ⟨rfl, rfl⟩ := h
    obtain ⟨l, k⟩ := hp _ _ _ hq (Nat.le_refl _) hi
    refine ⟨inner hb l rfl, fun m hm => ?_⟩
    have ln := l.next
    simp only at ln
    obtain ⟨m', e1, e2, e3⟩ := k m (fun id h => hm id (by
      rcases h with h | h | ⟨h, h'⟩
      · rcases l.rdOld id h with h1 | h1
        · cases h1
        · simp only at h1
          rcases Nat.lt_or_ge id s.base with h2 | h2
          · exact .inl (mem_joinN.2 (.inr ⟨h, h2⟩))
          · exact .inr (.inr ⟨h2, by simp only; omega⟩)
      · rcases l.wrOld id h with h1 | h1
        · cases h1
        · simp only at h1
          rcases Nat.lt_or_ge id s.base with h2 | h2
          · exact .inr (.inl (mem_joinN.2 (.inr ⟨h, h2⟩)))
          · exact .inr (.inr ⟨h2, by simp only; omega⟩)
      · exact .inr (.inr ⟨by simp only at h; omega, h'⟩)))
    refine ⟨m', ?_, fun id h => ?_, fun id h => ?_⟩
    · unfold Ev.fenced
      simp only [e1]
    · by_cases ht : Touch { s with base := s.next, rd := [], wr := [] } s1 id
      · exact e2 id ht
      · have na : ¬ Alter { s with base := s.next, rd := [], wr := [] } s1 id := fun h => ht (by
          rcases h with h | h
          · exact .inr (.inl h)
          · exact .inr (.inr h))
        rw [e3 id na, hm id h]
        rcases Nat.lt_or_ge id s.next with h1 | h1
        · exact (l.same id h1 (fun h => na (.inl h))).symm
        · have h2 : s1.next ≤ id := by
            rcases Nat.lt_or_ge id s1.next with h2 | h2
            · exact absurd (.inr ⟨h1, h2⟩) na
            · exact h2
          have n1 : look id s1.mem = none := by
            cases hl : look id s1.mem with
            | none => rfl
            | some c => have := l.inv id c hl; omega
          have n2 : look id s.mem = none := by
            cases hl : look id s.mem with
            | none => rfl
            | some c => have := hi id c hl; omega
          rw [n1, n2]
    · refine e3 id (fun h' => h ?_)
      rcases h' with h' | ⟨h', h''⟩
      · rcases l.wrOld id h' with h1 | h1
        · cases h1
        · simp only at h1
          rcases Nat.lt_or_ge id s.base with h2 | h2
          · exact .inl (mem_joinN.2 (.inr ⟨h', h2⟩))
          · exact .inr ⟨h2, by simp only; omega⟩
      · exact .inr ⟨by simp only at h'; omega, h''⟩

theorem Local.tidy {p : M Val} (hp : Local p) : Local (Ev.tidy p) := by
  intro s v s' h hb hi
  unfold Ev.tidy at h
  cases hq : p { s with base := s.next, rd := [], wr := [] } with
  | none => rw [hq] at h; cases h
  | some r =>
    obtain ⟨a, s1⟩ := r
    rw [hq] at h
    simp only at h
    have hfe : Ev.fenced 0 p s = some ((a, ⟨0, s1.rd, s1.wr, s.next, s1.next⟩), ⟨s1.mem, s1.next, s.base, joinN s.base s1.rd s.rd, joinN s.base s1.wr s.wr⟩) := by
      unfold Ev.fenced
      rw [hq]
    obtain ⟨l, k⟩ := Local.fenced 0 hp _ _ _ hfe hb hi
    cases hc : a.val?.isSome && s1.wr.isEmpty with
    | true =>
      rw [hc] at h
      simp only [Option.some.injEq, Prod.mk.injEq] at h
      obtain ⟨rfl, rfl⟩ := h
      refine ⟨⟨rfl, l.next, fun id c h => ?_, l.rd, l.wr, l.rdOld, l.wrOld, fun id h1 h2 => ?_⟩, fun m hm => ?_⟩
      · simp only [look_shed] at h
        split at h
        · cases h
        · exact l.inv id c h
      · simp only [look_shed]
        rw [if_neg (by omega)]
        exact l.same id h1 h2
      · obtain ⟨m', e1, e5, e6⟩ := k m hm
        refine ⟨shed s.next s1.next m', ?_, fun id h => ?_, fun id h => ?_⟩
        · unfold Ev.fenced at e1
          unfold Ev.tidy
          cases hq2 : p { mem := m, next := s.next, base := s.next, rd := [], wr := [] } with
          | none => simp only [hq2] at e1; cases e1
          | some r =>
            obtain ⟨a2, s2⟩ := r
            simp only [hq2, Option.some.injEq, Prod.mk.injEq, Foot.mk.injEq, St.mk.injEq, true_and] at e1
            obtain ⟨⟨rfl, e2, e3, e4⟩, e7, -, -⟩ := e1
            simp only [e3, hc, e2, e4, e7]
        · simp only [look_shed]
          rw [e5 id h]
        · rw [look_shed, if_neg]
          · exact e6 id h
          · rintro ⟨h1, h2⟩
            exact h (.inr ⟨by omega, h2⟩)
    | false =>
      rw [hc] at h
      simp only [Option.some.injEq, Prod.mk.injEq] at h
      obtain ⟨rfl, rfl⟩ := h
      refine ⟨l, fun m hm => ?_⟩
      obtain ⟨m', e1, e5, e6⟩ := k m hm
      refine ⟨m', ?_, e5, e6⟩
      unfold Ev.fenced at e1
      unfold Ev.tidy
      cases hq2 : p { mem := m, next := s.next, base := s.next, rd := [], wr := [] } with
      | none => simp only [hq2] at e1; cases e1
      | some r =>
        obtain ⟨a2, s2⟩ := r
        simp only [hq2, Option.some.injEq, Prod.mk.injEq, Foot.mk.injEq, St.mk.injEq, true_and] at e1
        obtain ⟨⟨rfl, e2, e3, e4⟩, e7, -, -⟩ := e1
        simp only [e3, hc, e2, e4, e7]
end

/-- What is made of the memory's own steps. -/
inductive Made : {α : Type} → M α → Prop
  | pure {α : Type} (a : α) : Made (Pure.pure a : M α)
  | fail {α : Type} : Made (Ev.fail : M α)
  | ofOpt {α : Type} (o : Option α) : Made (Ev.ofOpt o)
  | must (b : Bool) : Made (Ev.must b)
  | bind {α β : Type} {p : M α} {f : α → M β} : Made p → (∀ a, Made (f a)) → Made (p >>= f)
  | get (id : Nat) : Made (Ev.get id)
  | set (id : Nat) (c : List Val) : Made (Ev.set id c)
  | kill (id : Nat) : Made (Ev.kill id)
  | new (c : List Val) : Made (Ev.new c)
  | fenced {α : Type} (i : Nat) {p : M α} : Made p → Made (Ev.fenced i p)
  | tidy {p : M Val} : Made p → Made (Ev.tidy p)

theorem Made.loc {α : Type} {p : M α} (h : Made p) : Local p := by
  induction h with
  | pure a => exact .pure a
  | fail => exact .fail
  | ofOpt o => exact .ofOpt o
  | must b => exact .must b
  | bind _ _ ih1 ih2 => exact .bind ih1 ih2
  | get id => exact .get id
  | set id c => exact .set id c
  | kill id => exact .kill id
  | new c => exact .new c
  | fenced i _ ih => exact .fenced i ih
  | tidy _ ih => exact .tidy ih

theorem Made.mono {α : Type} {p : M α} (h : Made p) : ∀ s v s', p s = some (v, s') → s.next ≤ s'.next := by
  induction h with
  | pure a => intro s v s' h; rw [pure_some] at h; simp only [Prod.mk.injEq] at h; rw [h.2]; exact Nat.le_refl _
  | fail => intro s v s' h; rw [fail_some] at h; exact h.elim
  | ofOpt o => intro s v s' h; rw [ofOpt_some] at h; rw [show s' = _ from h.2]; exact Nat.le_refl _
  | must b => intro s v s' h; rw [must_some] at h; rw [show s' = _ from h.2]; exact Nat.le_refl _
  | bind _ _ ih1 ih2 =>
    intro s v s' h
    rw [bind_some] at h
    obtain ⟨a, s1, h1, h2⟩ := h
    exact Nat.le_trans (ih1 _ _ _ h1) (ih2 _ _ _ _ h2)
  | get id => intro s v s' h; rw [get_some] at h; rw [show s' = _ from h.2]; exact Nat.le_refl _
  | set id c => intro s v s' h; rw [set_some] at h; rw [show s' = _ from h.2]; exact Nat.le_refl _
  | kill id => intro s v s' h; rw [kill_some] at h; rw [show s' = _ from h.2]; exact Nat.le_refl _
  | new c => intro s v s' h; rw [new_some] at h; simp only [Prod.mk.injEq] at h; rw [h.2]; exact Nat.le_succ _
  | fenced i _ ih =>
    intro s v s' h
    unfold Ev.fenced at h
    split at h
    · rename_i a s1 hq
      simp only [Option.some.injEq, Prod.mk.injEq] at h
      obtain ⟨_, rfl⟩ := h
      have := ih _ _ _ hq
      exact this
    · cases h
  | tidy _ ih =>
    intro s v s' h
    unfold Ev.tidy at h
    split at h
    · rename_i a s1 hq
      have := ih _ _ _ hq
      split at h
      · simp only [Option.some.injEq, Prod.mk.injEq] at h
        obtain ⟨_, rfl⟩ := h
        exact this
      · simp only [Option.some.injEq, Prod.mk.injEq] at h
        obtain ⟨_, rfl⟩ := h
        exact this
    · cases h

section
variable {P : Program} {call : CallF}
open Made (pure bind fail ofOpt must get set kill new)

theorem Made.evLoad (t : TypeId) (a : Val) : Made (Ev.evLoad P t a) := by
  unfold Ev.evLoad
  refine bind (ofOpt _) (fun n => ?_)
  split
  · exact bind (get _) (fun _ => bind (ofOpt _) (fun _ => ofOpt _))
  · exact bind (ofOpt _) (fun _ => ofOpt _)
  · exact fail
theorem Made.evStore (t : TypeId) (a x : Val) : Made (Ev.evStore P t a x) := by
  unfold Ev.evStore
  refine bind (ofOpt _) (fun n => ?_)
  split
  · exact bind (must _) (fun _ => bind (get _) (fun _ => bind (ofOpt _) (fun _ => bind (set _ _) (fun _ => pure _))))
  · exact fail
theorem Made.evNew (c : List Val) : Made (Ev.evNew c) := by
  unfold Ev.evNew
  exact bind (must _) (fun _ => bind (new _) (fun _ => pure _))
theorem Made.evBuildSlice (t : TypeId) (len : Nat) (ps : List (Nat × Val)) : Made (Ev.evBuildSlice P t len ps) := by
  unfold Ev.evBuildSlice
  exact bind (ofOpt _) (fun _ => bind (ofOpt _) (fun _ => bind (ofOpt _) (fun _ => bind (must _) (fun _ => bind (ofOpt _) (fun _ => bind (new _) (fun _ => pure _))))))
theorem Made.evMakeSlice (t : TypeId) (l c : Val) : Made (Ev.evMakeSlice P t l c) := by
  unfold Ev.evMakeSlice
  exact bind (ofOpt _) (fun _ => bind (ofOpt _) (fun _ => bind (ofOpt _) (fun _ => bind (ofOpt _) (fun _ => bind (ofOpt _) (fun _ => bind (ofOpt _) (fun _ => bind (must _) (fun _ => bind (new _) (fun _ => pure _))))))))
theorem Made.evSlice (t : TypeId) (x : Val) (lo hi mx : Option Val) : Made (Ev.evSlice P t x lo hi mx) := by
  unfold Ev.evSlice
  refine bind (ofOpt _) (fun _ => bind (ofOpt _) (fun _ => bind (ofOpt _) (fun m => ?_)))
  split
  · refine bind (ofOpt _) (fun _ => bind (must _) (fun _ => ?_))
    split
    · split <;> exact pure _
    · exact bind (must _) (fun _ => pure _)
  · refine bind (ofOpt _) (fun _ => bind (must _) (fun _ => ?_))
    split
    · exact pure _
    · exact bind (must _) (fun _ => pure _)
  · exact bind (ofOpt _) (fun _ => bind (ofOpt _) (fun _ => bind (get _) (fun _ => bind (must _) (fun _ => pure _))))
  · exact fail
theorem Made.srcCells (sz : Nat) (x : Val) : Made (Ev.srcCells sz x) := by
  unfold Ev.srcCells
  split
  · exact bind (must _) (fun _ => bind (get _) (fun _ => ofOpt _))
  · exact bind (must _) (fun _ => pure _)
  · exact pure _
  · exact pure _
  · exact bind (must _) (fun _ => pure _)
  · exact fail
theorem Made.evGrow (sz n : Nat) (c : List Val) (x : Val) : Made (Ev.evGrow sz n c x) := by
  unfold Ev.evGrow
  split
  · refine bind (must _) (fun _ => bind (get _) (fun _ => ?_))
    split
    · split
      · exact bind (ofOpt _) (fun _ => bind (set _ _) (fun _ => pure _))
      · exact bind (ofOpt _) (fun _ => bind (new _) (fun _ => pure _))
    · exact bind (must _) (fun _ => bind (ofOpt _) (fun _ => bind (kill _) (fun _ => bind (new _) (fun _ => pure _))))
  · exact bind (must _) (fun _ => bind (new _) (fun _ => pure _))
  · exact bind (must _) (fun _ => bind (new _) (fun _ => pure _))
  · exact fail
theorem Made.evAppend (t u : TypeId) (s x : Val) : Made (Ev.evAppend P t u s x) := by
  unfold Ev.evAppend
  refine bind (ofOpt _) (fun _ => bind (ofOpt _) (fun _ => bind (ofOpt _) (fun _ => bind (ofOpt _) (fun _ => bind (ofOpt _) (fun _ => bind (ofOpt _) (fun _ => bind (must _) (fun _ => ?_)))))))
  split
  · exact pure _
  · exact bind (srcCells _ _) (fun _ => bind (must _) (fun _ => evGrow _ _ _ _))
theorem Made.evConvert (src dst : TypeId) (x : Val) : Made (Ev.evConvert P src dst x) := by
  unfold Ev.evConvert
  split
  · exact bind (must _) (fun _ => bind (get _) (fun _ => bind (ofOpt _) (fun _ => bind (ofOpt _) (fun _ => pure _))))
  · exact bind (must _) (fun _ => bind (new _) (fun _ => pure _))
  · exact ofOpt _
  · exact fail
theorem Made.evCall (hc : ∀ f args, Made (call f args)) (r : Operand → Val) (o : Oper) (c : Call) : Made (Ev.evCall P call r o c) := by
  unfold Ev.evCall
  split
  · split
    · exact hc _ _
    · exact fail
  · split
    · exact bind (ofOpt _) (fun _ => pure _)
    · exact bind (ofOpt _) (fun _ => pure _)
    · exact ofOpt _
    · exact bind (ofOpt _) (fun _ => pure _)
    · exact bind (ofOpt _) (fun _ => pure _)
    · exact bind (ofOpt _) (fun _ => bind (ofOpt _) (fun _ => evAppend _ _ _ _))
    · exact ofOpt _
  · exact fail
theorem Made.evOp (hc : ∀ f args, Made (call f args)) (r : Operand → Val) (o : Oper) : Made (Ev.evOp P call r o) := by
  unfold Ev.evOp
  split
  · exact pure _
  · exact pure _
  · split
    · exact pure _
    · exact pure _
    · exact fail
  · exact bind (ofOpt _) (fun _ => evNew _)
  · exact evNew _
  · exact ofOpt _
  · exact evBuildSlice _ _ _
  · exact evLoad _ _
  · exact evStore _ _ _
  · split
    · exact pure _
    · exact pure _
    · exact pure _
    · exact pure _
    · exact fail
  · split
    · exact fail
    · exact pure _
    · exact fail
  · exact pure _
  · exact evMakeSlice _ _ _
  · split
    · exact ofOpt _
    · exact evSlice _ _ _ _ _
  · exact ofOpt _
  · exact ofOpt _
  · exact ofOpt _
  · split
    · exact ofOpt _
    · exact ofOpt _
    · exact ofOpt _
  · split
    · exact ofOpt _
    · exact fail
  · split
    · exact ofOpt _
    · exact ofOpt _
  · split
    · exact pure _
    · split
      · exact pure _
      · split
        · exact pure _
        · exact ofOpt _
  · split
    · exact pure _
    · exact evConvert _ _ _
  · exact ofOpt _
  · exact evCall hc _ _ _
  · exact fail
theorem Made.evGuarded (hc : ∀ f args, Made (call f args)) (ops : Array Oper) (a : Tr) (o : Oper) : Made (Ev.evGuarded P call ops a o) := by
  unfold Ev.evGuarded
  simp only [evOpF_eq]
  split
  · exact evOp hc _ _
  · exact pure _
theorem Made.evOps (hc : ∀ f args, Made (call f args)) (nt : Nat) (ops : Array Oper) : ∀ (l : List Oper) (a : Tr), Made (Ev.evOps P call nt ops l a)
  | [], a => by unfold Ev.evOps; exact pure _
  | o :: l, a => by
    unfold Ev.evOps
    exact bind (evGuarded hc _ _ _) (fun _ => bind (ofOpt _) (fun _ => evOps hc nt ops l _))
theorem Made.evDrawn (hc : ∀ f args, Made (call f args)) (nt : Nat) (ops : Array Oper) : ∀ (l : List Oper) (i : Nat) (a : Tr), Made (Ev.evDrawn P call nt ops i l a)
  | [], i, a => by unfold Ev.evDrawn; exact pure _
  | o :: l, i, a => by
    unfold Ev.evDrawn
    exact bind (fenced i (evGuarded hc _ _ _)) (fun _ => bind (ofOpt _) (fun _ => bind (evDrawn hc nt ops l (i + 1) _) (fun _ => pure _)))
theorem Made.evRegion (hc : ∀ f args, Made (call f args)) (nt : Nat) (ops : Array Oper) (draw : Bool) (a : Tr) : Made (Ev.evRegion P call nt ops draw a) := by
  unfold Ev.evRegion
  split
  · exact evOps hc nt ops _ _
  · exact bind (evDrawn hc nt ops _ _ _) (fun _ => bind (must _) (fun _ => pure _))
theorem Made.evLoop {body : Tr → M (Ex × Tr)} (hb : ∀ a, Made (body a)) : ∀ (n : Nat) (a : Tr), Made (Ev.evLoop body n a)
  | 0, a => by unfold Ev.evLoop; exact fail
  | n + 1, a => by
    unfold Ev.evLoop
    refine bind (hb a) (fun r => ?_)
    split
    · exact evLoop hb n _
    · exact pure _
theorem Made.evScope {f : Option Nat → Tr → M (Ex × Tr)} {mine : Nat → Bool} (hb : ∀ l a, Made (f l a)) : ∀ (n : Nat) (l : Option Nat) (a : Tr), Made (Ev.evScope f mine n l a)
  | 0, l, a => by unfold Ev.evScope; exact fail
  | n + 1, l, a => by
    unfold Ev.evScope
    refine bind (hb l a) (fun r => ?_)
    split
    · split
      · exact evScope hb n _ _
      · exact pure _
    · exact pure _
theorem Made.evCode (hc : ∀ f args, Made (call f args)) (lf nt : Nat) (c : Code) : ∀ (l : Option Nat) (a : Tr), Made (Ev.evCode P call lf nt c l a) := by
  induction c with
  | skip => intro l a; cases l <;> unfold Ev.evCode <;> first | exact pure _ | exact fail
  | label k => intro l a; cases l <;> unfold Ev.evCode <;> exact pure _
  | region id ops draw => intro l a; cases l <;> unfold Ev.evCode <;> first | exact fail | exact bind (evRegion hc nt ops draw _) (fun _ => pure _)
  | seq x y ihx ihy =>
    intro l a
    cases l with
    | none =>
      unfold Ev.evCode
      refine bind (ihx _ _) (fun r => ?_)
      split
      · exact ihy _ _
      · exact pure _
    | some l =>
      unfold Ev.evCode
      split
      · refine bind (ihx _ _) (fun r => ?_)
        split
        · exact ihy _ _
        · exact pure _
      · exact ihy _ _
  | cond c x y ihx ihy =>
    intro l a
    cases l with
    | some l => unfold Ev.evCode; exact fail
    | none =>
      unfold Ev.evCode
      split
      · exact ihx _ _
      · exact ihy _ _
      · exact fail
  | block id c ih =>
    intro l a
    cases l with
    | some l => unfold Ev.evCode; exact fail
    | none =>
      unfold Ev.evCode
      refine bind (ih _ _) (fun r => ?_)
      split
      · split <;> exact pure _
      · exact pure _
  | loop c ih =>
    intro l a
    cases l with
    | some l => unfold Ev.evCode; exact fail
    | none => unfold Ev.evCode; exact evLoop (fun a => ih _ a) _ _
  | rangeFunc f ps x y => intro l a; cases l <;> unfold Ev.evCode <;> exact fail
  | exit id => intro l a; cases l <;> unfold Ev.evCode <;> first | exact pure _ | exact fail
  | scope c ih =>
    intro l a
    cases l with
    | some l => unfold Ev.evCode; exact fail
    | none => unfold Ev.evCode; exact evScope (fun l a => ih l a) _ _ _
  | goto k => intro l a; cases l <;> unfold Ev.evCode <;> first | exact pure _ | exact fail
  | ret => intro l a; cases l <;> unfold Ev.evCode <;> first | exact pure _ | exact fail
  | refuse why => intro l a; cases l <;> unfold Ev.evCode <;> exact fail
theorem Made.evResults (a : Tr) : ∀ l : List ResultVar, Made (Ev.evResults P a l)
  | [] => by unfold Ev.evResults; exact pure _
  | .tmp t :: l => by unfold Ev.evResults; exact bind (evResults a l) (fun _ => pure _)
  | .cell x t :: l => by unfold Ev.evResults; exact bind (evLoad _ _) (fun _ => bind (evResults a l) (fun _ => pure _))
theorem Made.evBody (hc : ∀ f args, Made (call f args)) (lf : Nat) (fn : Func) (c : Code) (args : List Val) : Made (Ev.evBody P call lf fn c args) := by
  unfold Ev.evBody
  simp only [cTab_eq]
  refine bind (must _) (fun _ => bind (ofOpt _) (fun _ => bind (evCode hc lf _ c _ _) (fun r => ?_)))
  split
  · refine bind (evResults _ _) (fun _ => ?_)
    split <;> exact pure _
  · refine bind (evResults _ _) (fun _ => ?_)
    split <;> exact pure _
  · exact fail
theorem Made.evFn (X : Ext) (F : FuncId → Option Func) (lf : Nat) : ∀ (n : Nat) (f : FuncId) (args : List Val), Made (Ev.evFn P X F lf n f args)
  | 0, f, args => by unfold Ev.evFn; exact fail
  | n + 1, f, args => by
    unfold Ev.evFn
    split
    · exact pure _
    · split
      · split
        · exact tidy (evBody (fun f args => evFn X F lf n f args) _ _ _ _)
        · exact fail
      · exact fail
end

/-- The same run twice: once in a memory that holds no block but those made so far, once in one that holds others, too. -/
structure Pair (s0 s0' s s' : St) : Prop where
  base : s0.base ≤ s0.next
  inv : Inv s0
  left : s = { s0 with mem := s.mem }
  right : s' = { s0' with mem := s'.mem }
  agree : ∀ id, Touch s0 s0' id → look id s.mem = look id s0.mem

theorem Pair.next {s0 s0' s s' : St} (h : Pair s0 s0' s s') : s.next = s0.next ∧ s'.next = s0'.next := by
  have h1 := congrArg St.next h.left
  have h2 := congrArg St.next h.right
  exact ⟨h1, h2⟩
theorem Pair.same {s0 s0' : St} (hb : s0.base ≤ s0.next) (hi : Inv s0) : Pair s0 s0' s0 s0' := ⟨hb, hi, rfl, rfl, fun _ _ => rfl⟩

section
variable {α β : Type}
/-- Both runs come to the same, and what the second one's memory is like behind it. -/
theorem Local.pair {p : M α} (hp : Local p) {s0 s0' s s' : St} {v v' : α} (h0 : p s0 = some (v, s0')) (h : p s = some (v', s')) (hb : s0.base ≤ s0.next) (hi : Inv s0) (hl : s = { s0 with mem := s.mem })
    (ha : ∀ id, Touch s0 s0' id → look id s.mem = look id s0.mem) : v' = v ∧ Pair s0 s0' s s' ∧ Loc s0 s0' ∧ (∀ id, Touch s0 s0' id → look id s'.mem = look id s0'.mem) ∧ (∀ id, ¬ Alter s0 s0' id → look id s'.mem = look id s.mem) := by
  obtain ⟨l, k⟩ := hp _ _ _ h0 hb hi
  obtain ⟨m', e1, e2, e3⟩ := k s.mem ha
  rw [← hl, h] at e1
  simp only [Option.some.injEq, Prod.mk.injEq] at e1
  obtain ⟨rfl, e4⟩ := e1
  have e5 : s'.mem = m' := by rw [e4]
  refine ⟨rfl, ⟨hb, hi, hl, by rw [e5]; exact e4, ha⟩, l, fun id h => by rw [e5]; exact e2 id h, fun id h => by rw [e5]; exact e3 id h⟩

theorem pair_bind {p : M α} {f : α → M β} (hp : Made p) (hf : ∀ a, Made (f a)) {s0 s0' s s' : St} {v v' : β} (h0 : (p >>= f) s0 = some (v, s0')) (h : (p >>= f) s = some (v', s')) (hP : Pair s0 s0' s s') :
    ∃ a s01 s1, p s0 = some (a, s01) ∧ f a s01 = some (v, s0') ∧ p s = some (a, s1) ∧ f a s1 = some (v', s') ∧ Pair s0 s01 s s1 ∧ Pair s01 s0' s1 s' := by
  rw [bind_some] at h0 h
  obtain ⟨a0, s01, h1, h2⟩ := h0
  obtain ⟨a1, s1, h3, h4⟩ := h
  obtain ⟨l1, -⟩ := hp.loc _ _ _ h1 hP.base hP.inv
  obtain ⟨l2, -⟩ := (hf a0).loc _ _ _ h2 (by rw [l1.base]; exact Nat.le_trans hP.base l1.next) l1.inv
  have t1 : ∀ id, Touch s0 s01 id → Touch s0 s0' id := fun id h => by
    rcases h with h | h | ⟨h, h'⟩
    · exact .inl (l2.rd id h)
    · exact .inr (.inl (l2.wr id h))
    · exact .inr (.inr ⟨h, Nat.lt_of_lt_of_le h' l2.next⟩)
  obtain ⟨rfl, P1, _, e2, e3⟩ := hp.loc.pair h1 h3 hP.base hP.inv hP.left (fun id h => hP.agree id (t1 id h))
  refine ⟨a1, s01, s1, h1, h2, h3, h4, P1, ⟨by rw [l1.base]; exact Nat.le_trans hP.base l1.next, l1.inv, P1.right, hP.right, fun id h => ?_⟩⟩
  have h : Touch s0 s0' id := by unfold Touch at *; rw [l1.base] at h; exact h
  by_cases ht : Touch s0 s01 id
  · exact e2 id ht
  · have na : ¬ Alter s0 s01 id := fun h => ht (by
      rcases h with h | h
      · exact .inr (.inl h)
      · exact .inr (.inr h))
    rw [e3 id na, hP.agree id h]
    by_cases hid : id < s0.base
    · exact (l1.same id hid (fun h => na (.inl h))).symm
    · have : s01.next ≤ id := by
        rcases Nat.lt_or_ge id s01.next with h1 | h1
        · exact absurd (.inr ⟨by omega, h1⟩) na
        · exact h1
      have n1 : look id s01.mem = none := by
        cases hl : look id s01.mem with
        | none => rfl
        | some c => have := l1.inv id c hl; omega
      have n2 : look id s0.mem = none := by
        cases hl : look id s0.mem with
        | none => rfl
        | some c => have := hP.inv id c hl; have := l1.next; omega
      rw [n1, n2]
end
end Go.Proofs.Ytjgdcifbhmjinaa.Ev
