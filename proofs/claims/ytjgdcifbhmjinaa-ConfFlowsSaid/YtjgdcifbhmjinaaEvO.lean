/- Each operation as the evaluator does it is what the model does, of what the evaluator's values stand for. -/
import Derived.Test.YtjgdcifbhmjinaaEvR
import Derived.Laws.Append
import Derived.Laws.ByValue
namespace Go.Proofs.Ytjgdcifbhmjinaa.Ev
open Go

section
variable {α β : Type} {s s' : St}
theorem bind_some {p : M α} {f : α → M β} {r : β × St} : (p >>= f) s = some r ↔ ∃ a s1, p s = some (a, s1) ∧ f a s1 = some r := by
  show M.bind p f s = some r ↔ _
  unfold M.bind
  cases h : p s with
  | none => simp
  | some x =>
    obtain ⟨a, s1⟩ := x
    exact ⟨fun e => ⟨a, s1, rfl, e⟩, fun ⟨a', s1', e, e'⟩ => by cases e; exact e'⟩
theorem pure_some {a : α} {r : α × St} : (pure a : M α) s = some r ↔ r = (a, s) := by
  show some (a, s) = some r ↔ _
  simp [eq_comm]
theorem pure_some' {a : α} {r : α × St} : (M.pure a : M α) s = some r ↔ r = (a, s) := pure_some
theorem fail_some {r : α × St} : (fail : M α) s = some r ↔ False := by simp [fail]
theorem must_some {b : Bool} {r : Unit × St} : must b s = some r ↔ b = true ∧ r.2 = s := by
  cases b with
  | false => simp [must, fail]
  | true => obtain ⟨x, y⟩ := r; simp only [must, pure_some']; simp [eq_comm]
theorem ofOpt_some {o : Option α} {r : α × St} : ofOpt o s = some r ↔ o = some r.1 ∧ r.2 = s := by
  cases o with
  | none => simp [ofOpt, fail]
  | some a => obtain ⟨x, y⟩ := r; simp only [ofOpt, pure_some']; simp [eq_comm]
theorem get_some {id : Nat} {r : List Val × St} : get id s = some r ↔ look id s.mem = some r.1 ∧ r.2 = { s with rd := note s.base id s.rd } := by
  unfold get
  cases h : look id s.mem with
  | none => simp
  | some b => obtain ⟨x, y⟩ := r; simp [eq_comm]
theorem set_some {id : Nat} {c : List Val} {r : Unit × St} : set id c s = some r ↔ (∃ b, look id s.mem = some b) ∧ r.2 = { s with mem := upd id c s.mem, wr := note s.base id s.wr } := by
  unfold set
  cases h : look id s.mem with
  | none => simp
  | some b => obtain ⟨x, y⟩ := r; simp [eq_comm]
theorem kill_some {id : Nat} {r : Unit × St} : kill id s = some r ↔ (∃ b, look id s.mem = some b) ∧ r.2 = { s with mem := del id s.mem, wr := note s.base id s.wr } := by
  unfold kill
  cases h : look id s.mem with
  | none => simp
  | some b => obtain ⟨x, y⟩ := r; simp [eq_comm]
theorem new_some {c : List Val} {r : Nat × St} : new c s = some r ↔ r = (s.next, { s with mem := (s.next, c) :: s.mem, next := s.next + 1 }) := by
  simp [new, eq_comm]
end

/-- What comes of a step: a value that stands for it, a memory that stands for what is there. -/
def Post (ρ : Rho) (I : Im) (s s' : St) (v : Val) (x : Value) (w' : World) : Prop :=
  ∃ ρ' I', Le ρ ρ' ∧ Sub I I' ∧ SR ρ' I' s'.mem w' ∧ VR ρ' I' v x ∧ (∀ id, ρ' id ≠ none → ρ id ≠ none ∨ s.next ≤ id ∧ id < s'.next)
def Free (ρ : Rho) (s s' : St) : Prop := ∀ id, s.next ≤ id → id < s'.next → ρ id = none

section
variable {P : Program} {ρ : Rho} {I : Im} {s s' : St} {w : World}

theorem Post.same {v : Val} {x : Value} (hsr : SR ρ I s.mem w) (hm : s'.mem = s.mem) (h : VR ρ I v x) : Post ρ I s s' v x w :=
  ⟨ρ, I, .refl _, .refl _, hm ▸ hsr, h, fun _ h => .inl h⟩

theorem cell?_of {b j : Nat} {cells : Array Value} {elem : TypeId} {fr : Nat × Nat} (h : w.heap[b]? = some (.cells cells elem fr)) : w.cell? ⟨b, j, none⟩ = cells[j]? := by
  simp [World.cell?, h]
theorem add_none (b k j : Nat) : (⟨b, k, none⟩ : Addr).add j = ⟨b, k + j, none⟩ := by
  unfold Addr.add
  split
  · rename_i h; subst h; rfl
  · rfl

theorem loadCells_ok {b k n : Nat} {cells : Array Value} {elem : TypeId} {fr : Nat × Nat} (h : w.heap[b]? = some (.cells cells elem fr)) (hn : k + n ≤ cells.size) :
    (loadCells ⟨b, k, none⟩ n).run P w = .ok (((cells.toList.drop k).take n).toArray) w := by
  have hl : ((cells.toList.drop k).take n).length = n := by simp; omega
  have := run_loadCells_list (P := P) w ⟨b, k, none⟩ ((cells.toList.drop k).take n) (fun j v hj => by
    rw [add_none, cell?_of h]
    have hj' : j < n := by
      have := (List.getElem?_eq_some_iff.1 hj).1
      omega
    rw [List.getElem?_take_of_lt hj', List.getElem?_drop] at hj
    simpa using hj)
  rwa [hl] at this

theorem isAgg_ok (t : TypeId) {d : TypeDesc} (h : P.underlying t = some d) : (isAgg t).run P w = .ok (aggD d) w := by
  unfold isAgg
  simp only [underlying, Sem.run_bind, run_program, Result.andThen, h, Sem.run_pure]
  cases d <;> rfl
theorem shape_some {t : TypeId} {r : Nat × Bool} (h : shape? P t = some r) : ∃ d i, P.underlying t = some d ∧ P.info? t = some i ∧ r.2 = aggD d ∧ r.1 = if aggD d = true then i.size else 1 := by
  unfold shape? at h
  split at h
  · rename_i d i h1 h2
    simp only [Option.some.injEq] at h
    subst h
    refine ⟨d, i, h1, h2, rfl, ?_⟩
    cases aggD d <;> rfl
  · cases h
theorem sizeOf_ok {t : TypeId} {i : TypeInfo} (h : P.info? t = some i) : (sizeOf t).run P w = .ok i.size w := by simp [sizeOf, typeInfo, h]
theorem underlying_ok {t : TypeId} {d : TypeDesc} (h : P.underlying t = some d) : (underlying t).run P w = .ok d w := by simp [underlying, h]

/-- Cells that are read, as a value of the type. -/
theorem loadVar_ok {t : TypeId} {b k : Nat} {cells : Array Value} {elem : TypeId} {fr : Nat × Nat} {cs : List Val} {v : Val} {r : Nat × Bool} (hd : shape? P t = some r)
    (h : w.heap[b]? = some (.cells cells elem fr)) (hv : shut r.2 cs = some v) (hl : cs.length = r.1)
    (hr : VRs ρ I cs ((cells.toList.drop k).take cs.length)) : ∃ y, (loadVar t ⟨b, k, none⟩).run P w = .ok y w ∧ VR ρ I v y := by
  obtain ⟨d, i, hd, hi, hr2, hr1⟩ := shape_some hd
  have hlen := hr.length
  simp only [List.length_take, List.length_drop, Array.length_toList] at hlen
  unfold loadVar
  simp only [Sem.run_bind, isAgg_ok t hd, Result.andThen]
  rw [hr2] at hv
  rw [hr1] at hl
  cases ha : aggD d with
  | true =>
    rw [ha] at hv hl
    simp only [shut, Option.some.injEq] at hv
    subst hv
    simp only [if_true] at hl
    refine ⟨_, ?_, .agg hr⟩
    by_cases h0 : i.size = 0
    · simp [sizeOf_ok hi, loadCells, loadCellsFrom, hl, h0]
    · simp [sizeOf_ok hi, loadCells_ok h (by omega : k + i.size ≤ cells.size), hl]
  | false =>
    rw [ha] at hv hl
    simp only [Bool.false_eq_true, if_false] at hl
    match cs, hl with
    | [u], _ =>
      simp only [shut, Option.some.injEq] at hv
      subst hv
      simp only [List.length_singleton] at hr hlen
      have hk : k < cells.size := by omega
      cases hr' : (cells.toList.drop k).take 1 with
      | nil => rw [hr'] at hr; cases hr
      | cons y ys =>
        rw [hr'] at hr
        cases hr with
        | cons h1 h2 =>
          refine ⟨y, ?_, h1⟩
          have hy : cells[k]? = some y := by
            have := congrArg (·[0]?) hr'
            simpa using this
          simp [load, Sem.run, cell?_of h, hy]

theorem cut_some {n off : Nat} {b cs : List Val} (h : cut n off b = some cs) : off + n ≤ b.length ∧ cs = (b.drop off).take n ∧ cs.length = n := by
  unfold cut at h
  split at h
  · rename_i h1
    have := Nat.le_of_ble_eq_true h1
    simp at h
    subst h
    exact ⟨this, rfl, by simp; omega⟩
  · cases h

/-- A part of a block that is known. -/
theorem VRs.part {cs : List Val} {l : List Value} {o off n : Nat} (h : VRs ρ I cs ((l.drop o).take cs.length)) (hn : off + n ≤ cs.length) :
    VRs ρ I ((cs.drop off).take n) ((l.drop (o + off)).take n) := by
  have := (h.drop off).take n
  rw [List.drop_take, List.drop_drop, List.take_take] at this
  rwa [Nat.min_eq_left (by omega)] at this

theorem known_some {t : TypeId} {n : Nat} (h : knownSize P t = some n) : ∃ i, P.info? t = some i ∧ i.size = n := by
  unfold knownSize at h
  cases hi : P.info? t with
  | none => simp [hi] at h
  | some i => simp [hi] at h; exact ⟨i, rfl, h⟩

theorem load_ok {t : TypeId} {a v : Val} {x : Value} (h : evLoad P t a s = some (v, s')) (hsr : SR ρ I s.mem w) (ha : VR ρ I a x) :
    ∃ y, (Instr.loadAt t x).run P w = .ok y w ∧ VR ρ I v y ∧ s'.mem = s.mem ∧ s'.next = s.next := by
  unfold evLoad at h
  simp only [bind_some, ofOpt_some] at h
  obtain ⟨r, s1, ⟨hr, rfl⟩, h⟩ := h
  cases ha with
  | ref h1 h2 =>
    simp only [bind_some, ofOpt_some, get_some] at h
    obtain ⟨b, s2, ⟨hb, hs2⟩, cs, s3, ⟨hc, hs3⟩, hv, hs'⟩ := h
    subst hs' hs3 hs2
    obtain ⟨hn, rfl, hl⟩ := cut_some hc
    obtain ⟨bb, o, n, ho⟩ := hsr.mem _ _ hb
    rw [h1] at ho
    obtain rfl := Option.some.inj ho
    obtain rfl := h2 _ _ _ rfl
    obtain ⟨cs, hcs, cells, elem, lo, hi, hw, _, _, hol, hrs⟩ := hsr.live _ _ _ _ h1
    rw [hb] at hcs
    obtain rfl := Option.some.inj hcs
    obtain ⟨y, hy, hvr⟩ := loadVar_ok (ρ := ρ) (I := I) hr hw hv hl (by rw [hl]; exact hrs.part hn)
    exact ⟨y, by simpa [Instr.loadAt, Instr.sureAddr] using hy, hvr, rfl, rfl⟩
  | fpt h1 h2 =>
    simp only [bind_some, ofOpt_some] at h
    obtain ⟨cs, s3, ⟨hc, hs3⟩, hv, hs'⟩ := h
    subst hs' hs3
    obtain ⟨hn, rfl, hl⟩ := cut_some hc
    obtain ⟨y, hy, hvr⟩ := loadVar_ok (ρ := ρ) (I := I) hr (hsr.im _ _ h1) hv hl (by rw [hl]; exact h2.part hn)
    exact ⟨y, by simpa [Instr.loadAt, Instr.sureAddr] using hy, hvr, rfl, rfl⟩
  | _ => simp only [fail_some] at h

/-- A block's content, another one. -/
def putRow (w : World) (b : Nat) (x : Obj) : World := { w with heap := w.heap.setIfInBounds b x }
theorem putRow_at {b : Nat} {x y : Obj} (h : w.heap[b]? = some y) : (putRow w b x).heap[b]? = some x := by
  have := (Array.getElem?_eq_some_iff.1 h).1
  simp [putRow, this]
theorem putRow_other {b c : Nat} {x : Obj} (h : b ≠ c) : (putRow w b x).heap[c]? = w.heap[c]? := by
  simp [putRow, Array.getElem?_setIfInBounds_ne h]
theorem putRow_putRow {b : Nat} {x y : Obj} : putRow (putRow w b x) b y = putRow w b y := by
  simp [putRow]
theorem putRow_self {b : Nat} {x : Obj} (h : w.heap[b]? = some x) : putRow w b x = w := by
  unfold putRow
  have : w.heap.setIfInBounds b x = w.heap := by
    apply Array.ext_getElem?
    intro j
    rw [Array.getElem?_setIfInBounds]
    split
    · rename_i hj
      subst hj
      have h1 := (Array.getElem?_eq_some_iff.1 h).1
      simp only [h1, if_true]
      exact h.symm
    · rfl
  rw [this]

/-- A list with a part laid over. -/
def spl (l : List Value) (k : Nat) (vs : List Value) : List Value := l.take k ++ (vs ++ l.drop (k + vs.length))
theorem spl_length {l : List Value} {k : Nat} {vs : List Value} (h : k + vs.length ≤ l.length) : (spl l k vs).length = l.length := by
  simp [spl]; omega
theorem spl_cons {l : List Value} {k : Nat} {v : Value} {vs : List Value} (h : k < l.length) : spl (l.set k v) (k + 1) vs = spl l k (v :: vs) := by
  unfold spl
  have h1 : (l.set k v).take (k + 1) = l.take k ++ [v] := by
    rw [List.take_succ_eq_append_getElem (by simpa using h), List.take_set, List.set_eq_of_length_le (by simp; omega)]
    simp
  have h2 : (l.set k v).drop (k + 1 + vs.length) = l.drop (k + 1 + vs.length) := by
    rw [List.drop_set_of_lt (by omega)]
  rw [h1, h2]
  simp [Nat.add_assoc, Nat.add_comm 1]
theorem spl_nil {l : List Value} {k : Nat} : spl l k [] = l := by simp [spl]
theorem spl_out {l : List Value} {k j : Nat} {vs : List Value} (hk : k + vs.length ≤ l.length) (h : j < k ∨ k + vs.length ≤ j) : (spl l k vs)[j]? = l[j]? := by
  unfold spl
  rcases h with h | h
  · rw [List.getElem?_append_left (by simp; omega), List.getElem?_take_of_lt h]
  · rw [List.getElem?_append_right (by simp; omega), List.getElem?_append_right (by simp; omega), List.getElem?_drop]
    congr 1
    simp
    omega
theorem spl_in {l : List Value} {k j : Nat} {vs : List Value} (hk : k + vs.length ≤ l.length) (h : j < vs.length) : (spl l k vs)[k + j]? = vs[j]? := by
  unfold spl
  rw [List.getElem?_append_right (by simp; omega), List.getElem?_append_left (by simp; omega)]
  congr 1
  simp
  omega

theorem single_oneCell {v : Value} (h : single v = true) : v.oneCell' = true := by
  cases v <;> first | rfl | (simp [single] at h)

theorem storeCells_ok {b k lo hi : Nat} {elem : TypeId} : ∀ (vs : List Value) (i : Nat) (w : World) (cells : Array Value), w.heap[b]? = some (.cells cells elem (lo, hi)) → (∀ y ∈ vs, single y = true) →
    k + i + vs.length ≤ cells.size → (cells.size ≤ lo ∨ hi ≤ lo) → (storeCells ⟨b, k, none⟩ vs i).run P w = .ok () (putRow w b (.cells (spl cells.toList (k + i) vs).toArray elem (lo, hi)))
  | [], i, w, cells, h, _, _, _ => by
    rw [spl_nil, Array.toArray_toList, putRow_self h]
    rfl
  | v :: vs, i, w, cells, h, h1, h2, h3 => by
    simp only [List.length_cons] at h2
    have hki : k + i < cells.size := by omega
    have hc : w.cell? ⟨b, k + i, none⟩ = some cells[k + i] := by rw [cell?_of h]; simp [hki]
    have hf : w.frozen? ⟨b, k + i, none⟩ = false := by
      simp only [World.frozen?, h]
      simp
      omega
    have hset : w.setCell ⟨b, k + i, none⟩ v = putRow w b (.cells (cells.setIfInBounds (k + i) v) elem (lo, hi)) := by
      unfold World.setCell putRow
      have hb := (Array.getElem?_eq_some_iff.1 h).1
      congr 1
      apply Array.ext_getElem?
      intro j
      rw [Array.getElem?_modify, Array.getElem?_setIfInBounds]
      split
      · rename_i hj
        subst hj
        simp only [h]
        rfl
      · rfl
    have ih := storeCells_ok (k := k) (b := b) (lo := lo) (hi := hi) (elem := elem) vs (i + 1) (putRow w b (.cells (cells.setIfInBounds (k + i) v) elem (lo, hi))) (cells.setIfInBounds (k + i) v) (putRow_at h)
      (fun y hy => h1 y (List.mem_cons_of_mem _ hy)) (by rw [Array.size_setIfInBounds]; omega) (by rw [Array.size_setIfInBounds]; exact h3)
    simp only [storeCells, Sem.run_bind, add_none, run_store P w _ v .plain (single_oneCell (h1 v List.mem_cons_self)), hc, hf, Bool.false_eq_true, if_false, Result.andThen, hset]
    rw [ih, putRow_putRow]
    congr 4
    rw [← spl_cons (by simpa using hki)]
    simp [Nat.add_assoc]

theorem lay_some {off : Nat} {cs b b' : List Val} (h : lay off cs b = some b') : off + cs.length ≤ b.length ∧ b' = b.take off ++ (cs ++ b.drop (off + cs.length)) ∧ b'.length = b.length := by
  unfold lay at h
  split at h
  · rename_i h1
    have := Nat.le_of_ble_eq_true h1
    simp only [Option.some.injEq] at h
    subst h
    exact ⟨this, rfl, by simp; omega⟩
  · cases h

/-- A part laid over, on both sides. -/
theorem VRs.lay {cs cs' c : List Val} {l vs : List Value} {o off : Nat} (h : VRs ρ I cs ((l.drop o).take cs.length)) (hv : VRs ρ I c vs) (hl : Ev.lay off c cs = some cs') (ho : o + cs.length ≤ l.length) :
    VRs ρ I cs' (((spl l (o + off) vs).drop o).take cs'.length) := by
  obtain ⟨h1, rfl, h2⟩ := lay_some hl
  have hvl := hv.length
  have e : ((spl l (o + off) vs).drop o).take (cs.take off ++ (c ++ cs.drop (off + c.length))).length = ((l.drop o).take cs.length).take off ++ (vs ++ ((l.drop o).take cs.length).drop (off + c.length)) := by
    rw [h2]
    apply List.ext_getElem?
    intro j
    by_cases hj : j < cs.length
    · rw [List.getElem?_take_of_lt hj, List.getElem?_drop]
      have e1 : (List.take off (List.take cs.length (List.drop o l))).length = off := by simp; omega
      by_cases hj1 : j < off
      · rw [spl_out (by omega) (by omega), List.getElem?_append_left (by omega), List.getElem?_take_of_lt hj1, List.getElem?_take_of_lt hj, List.getElem?_drop]
      · rw [List.getElem?_append_right (by omega), e1]
        by_cases hj2 : j < off + vs.length
        · rw [show o + j = o + off + (j - off) by omega, spl_in (by omega) (by omega), List.getElem?_append_left (by omega)]
        · rw [spl_out (by omega) (by omega), List.getElem?_append_right (by omega), List.getElem?_drop, List.getElem?_take_of_lt (by omega), List.getElem?_drop]
          congr 1; omega
    · rw [List.getElem?_eq_none (by simp; omega), List.getElem?_eq_none (by simp; omega)]
  rw [e]
  exact (h.take off).append (hv.append (h.drop (off + c.length)))

/-- A block is written. -/
theorem SR.set (hsr : SR ρ I s.mem w) {id b o n : Nat} {cs cs' : List Val} {cells : Array Value} {elem : TypeId} {lo hi : Nat} {l : List Value} (hid : ρ id = some (.live b o n)) (hc : look id s.mem = some cs)
    (hw : w.heap[b]? = some (.cells cells elem (lo, hi))) (hl : l.length = cells.size) (hlen : cs'.length = cs.length) (hv : VRs ρ I cs' ((l.drop o).take cs'.length)) :
    SR ρ I (upd id cs' s.mem) (putRow w b (.cells l.toArray elem (lo, hi))) := by
  obtain ⟨cs0, hcs0, cells0, elem0, lo0, hi0, hw0, hn, hfr, hol, _⟩ := hsr.live _ _ _ _ hid
  rw [hc] at hcs0
  obtain rfl := Option.some.inj hcs0
  rw [hw] at hw0
  simp only [Option.some.injEq, Obj.cells.injEq, Prod.mk.injEq] at hw0
  obtain ⟨rfl, rfl, rfl, rfl⟩ := hw0
  refine ⟨fun id' b' o' n' h' => ?_, fun id' c' h' => ?_, hsr.inj, fun b' x h' => ?_, hsr.aside, ⟨hsr.env.os, hsr.env.tape, hsr.env.output, by simp only [putRow, Array.size_setIfInBounds]; exact hsr.env.size⟩⟩
  · obtain ⟨c1, hc1, cells1, elem1, lo1, hi1, hw1, hn1, hfr1, hol1, hv1⟩ := hsr.live _ _ _ _ h'
    by_cases hb : b = b'
    · subst hb
      obtain rfl := hsr.inj _ _ _ _ _ _ _ hid h'
      rw [hid] at h'
      simp only [Option.some.injEq, Own.live.injEq, true_and] at h'
      obtain ⟨rfl, rfl⟩ := h'
      refine ⟨cs', by rw [look_upd, if_pos rfl, hc]; rfl, l.toArray, elem, lo, hi, putRow_at hw, by simp [hl, hn], by simpa using hfr, by omega, by simpa using hv⟩
    · have hne : id ≠ id' := fun e => by
        subst e
        rw [hid] at h'
        simp at h'
        exact hb h'.1
      exact ⟨c1, by rw [look_upd, if_neg hne]; exact hc1, cells1, elem1, lo1, hi1, by rw [putRow_other hb]; exact hw1, hn1, hfr1, hol1, hv1⟩
  · rw [look_upd] at h'
    split at h'
    · rename_i e
      subst e
      exact ⟨_, _, _, hid⟩
    · exact hsr.mem _ _ h'
  · have hb : b ≠ b' := fun e => by
      subst e
      rw [hsr.aside _ _ _ _ hid] at h'
      cases h'
    rw [putRow_other hb]
    exact hsr.im _ _ h'

/-- A new block. -/
def Rho.add (ρ : Rho) (k : Nat) (ow : Own) : Rho := fun id => if id = k then some ow else ρ id
theorem Le.add {ρ : Rho} {k : Nat} {ow : Own} (h : ρ k = none) : Le ρ (ρ.add k ow) := fun id o e => .inl (by
  unfold Rho.add
  rw [if_neg (fun e' => by subst e'; rw [h] at e; cases e)]
  exact e)
theorem Le.die {ρ : Rho} {k : Nat} : Le ρ (ρ.add k .dead) := fun id o e => by
  unfold Rho.add
  split
  · exact .inr rfl
  · exact .inl e
theorem SR.new (hsr : SR ρ I s.mem w) {k : Nat} {cs : List Val} {cells : Array Value} {elem : TypeId} {lo hi : Nat} (hk : ρ k = none) (hfr : cells.size ≤ lo ∨ hi ≤ lo) (hn : cs.length ≤ cells.size)
    (hv : VRs ρ I cs (cells.toList.take cs.length)) : SR (ρ.add k (.live w.heap.size 0 cells.size)) I ((k, cs) :: s.mem) (w.alloc (.cells cells elem (lo, hi))) := by
  have hle : Le ρ (ρ.add k (.live w.heap.size 0 cells.size)) := Le.add hk
  have hold : ∀ {b : Nat} {x : Obj}, w.heap[b]? = some x → (w.alloc (.cells cells elem (lo, hi))).heap[b]? = some x ∧ b ≠ w.heap.size := by
    intro b x hb
    have := (Array.getElem?_eq_some_iff.1 hb).1
    exact ⟨by simp only [World.alloc]; rw [Array.getElem?_push_lt this]; simpa [this] using hb, by omega⟩
  refine ⟨fun id b o n h' => ?_, fun id c h' => ?_, fun id id' b o n o' n' h1 h2 => ?_, fun b x h' => (hold (hsr.im _ _ h')).1, fun id b o n h' => ?_, ⟨hsr.env.os, hsr.env.tape, hsr.env.output, by rw [World.size_alloc]; exact Nat.le_succ_of_le hsr.env.size⟩⟩
  · unfold Rho.add at h'
    split at h'
    · rename_i e
      subst e
      simp only [Option.some.injEq, Own.live.injEq] at h'
      obtain ⟨rfl, rfl, rfl⟩ := h'
      exact ⟨cs, by rw [look_cons, if_pos rfl], cells, elem, lo, hi, by unfold World.alloc; simp only [Array.getElem?_push_size], rfl, hfr, by omega, (hv.mono hle (.refl _))⟩
    · rename_i e
      obtain ⟨c1, hc1, cells1, elem1, lo1, hi1, hw1, hn1, hfr1, hol1, hv1⟩ := hsr.live _ _ _ _ h'
      exact ⟨c1, by rw [look_cons, if_neg (fun h => e h.symm)]; exact hc1, cells1, elem1, lo1, hi1, (hold hw1).1, hn1, hfr1, hol1, hv1.mono hle (.refl _)⟩
  · rw [look_cons] at h'
    unfold Rho.add
    split at h'
    · rename_i e; subst e; exact ⟨_, _, _, if_pos rfl⟩
    · rename_i e
      obtain ⟨b, o, n, h⟩ := hsr.mem _ _ h'
      exact ⟨b, o, n, by rw [if_neg (fun h => e h.symm)]; exact h⟩
  · unfold Rho.add at h1 h2
    split at h1 <;> split at h2
    · simp_all
    · simp only [Option.some.injEq, Own.live.injEq] at h1
      obtain ⟨c1, hc1, cells1, elem1, lo1, hi1, hw1, _⟩ := hsr.live _ _ _ _ h2
      exact absurd h1.1.symm (hold hw1).2
    · simp only [Option.some.injEq, Own.live.injEq] at h2
      obtain ⟨c1, hc1, cells1, elem1, lo1, hi1, hw1, _⟩ := hsr.live _ _ _ _ h1
      exact absurd h2.1.symm (hold hw1).2
    · exact hsr.inj _ _ _ _ _ _ _ h1 h2
  · unfold Rho.add at h'
    split at h'
    · simp only [Option.some.injEq, Own.live.injEq] at h'
      obtain ⟨rfl, -, -⟩ := h'
      cases hI : I w.heap.size with
      | none => rfl
      | some x => exact absurd rfl (hold (hsr.im _ _ hI)).2
    · exact hsr.aside _ _ _ _ h'

theorem new_ok {cs : List Val} {cells : Array Value} {elem : TypeId} {lo hi : Nat} {k : Nat} {v : Val} {x : Value} (h : new cs s = some (k, s')) (hsr : SR ρ I s.mem w) (hf : Free ρ s s') (hfr : cells.size ≤ lo ∨ hi ≤ lo)
    (hn : cs.length ≤ cells.size) (hv : VRs ρ I cs (cells.toList.take cs.length)) (hx : ∀ ρ', ρ' k = some (.live w.heap.size 0 cells.size) → VR ρ' I v x) :
    Post ρ I s s' v x (w.alloc (.cells cells elem (lo, hi))) := by
  rw [new_some] at h
  simp only [Prod.mk.injEq] at h
  obtain ⟨rfl, rfl⟩ := h
  have hk := hf s.next (Nat.le_refl _) (Nat.lt_succ_self _)
  refine ⟨_, I, Le.add hk, .refl _, hsr.new hk hfr hn hv, hx _ (if_pos rfl), fun id h => ?_⟩
  unfold Rho.add at h
  split at h
  · rename_i e; subst e; exact .inr ⟨Nat.le_refl _, Nat.lt_succ_self _⟩
  · exact .inl h

/-- A block is let go. -/
theorem SR.kill (hsr : SR ρ I s.mem w) (k : Nat) : SR (ρ.add k .dead) I (del k s.mem) w := by
  refine ⟨fun id b o n h' => ?_, fun id c h' => ?_, fun id id' b o n o' n' h1 h2 => ?_, hsr.im, fun id b o n h' => ?_, hsr.env⟩
  · unfold Rho.add at h'
    split at h'
    · cases h'
    · rename_i e
      obtain ⟨c1, hc1, cells1, elem1, lo1, hi1, hw1, hn1, hfr1, hol1, hv1⟩ := hsr.live _ _ _ _ h'
      exact ⟨c1, by rw [look_del, if_neg (fun h => e h.symm)]; exact hc1, cells1, elem1, lo1, hi1, hw1, hn1, hfr1, hol1, hv1.mono Le.die (.refl _)⟩
  · rw [look_del] at h'
    split at h'
    · cases h'
    · rename_i e
      obtain ⟨b, o, n, h⟩ := hsr.mem _ _ h'
      exact ⟨b, o, n, by unfold Rho.add; rw [if_neg (fun h => e h.symm)]; exact h⟩
  · unfold Rho.add at h1 h2
    split at h1
    · cases h1
    · split at h2
      · cases h2
      · exact hsr.inj _ _ _ _ _ _ _ h1 h2
  · unfold Rho.add at h'
    split at h'
    · cases h'
    · exact hsr.aside _ _ _ _ h'

theorem set_ok {id b o n : Nat} {cs' : List Val} {u : Unit} {cells : Array Value} {elem : TypeId} {lo hi : Nat} {l : List Value} {v : Val} {x : Value} (h : Ev.set id cs' s = some (u, s')) (hsr : SR ρ I s.mem w) (hid : ρ id = some (.live b o n))
    {cs : List Val} (hc : look id s.mem = some cs) (hw : w.heap[b]? = some (.cells cells elem (lo, hi))) (hl : l.length = cells.size) (hlen : cs'.length = cs.length) (hv : VRs ρ I cs' ((l.drop o).take cs'.length)) (hx : VR ρ I v x) :
    Post ρ I s s' v x (putRow w b (.cells l.toArray elem (lo, hi))) := by
  rw [set_some] at h
  obtain ⟨_, rfl⟩ := h
  exact ⟨ρ, I, .refl _, .refl _, hsr.set hid hc hw hl hlen hv, hx, fun _ h => .inl h⟩

theorem store_ok {t : TypeId} {a v u : Val} {x y : Value} (h : evStore P t a v s = some (u, s')) (hsr : SR ρ I s.mem w) (ha : VR ρ I a x) (hv : VR ρ I v y) :
    ∃ w', (Instr.storeAt t x y).run P w = .ok () w' ∧ Post ρ I s s' u undef w' := by
  unfold evStore at h
  simp only [bind_some, ofOpt_some] at h
  obtain ⟨n, s1, ⟨hn, rfl⟩, h⟩ := h
  obtain ⟨i, hi, rfl⟩ := known_some hn
  cases ha with
  | @ref id off ow ad h1 h2 =>
    simp only [bind_some, ofOpt_some, get_some, must_some, pure_some] at h
    obtain ⟨_, s0, ⟨hck, rfl⟩, b, s2, ⟨hb, hs2⟩, b', s3, ⟨hlay, hs3⟩, u', s4, hset, hr⟩ := h
    simp only [Bool.and_eq_true] at hck
    have hsz := Nat.eq_of_beq_eq_true hck.1
    simp only [Prod.mk.injEq] at hr
    obtain ⟨rfl, rfl⟩ := hr
    subst hs3 hs2
    obtain ⟨bb, o, m, ho⟩ := hsr.mem _ _ hb
    rw [h1] at ho
    obtain rfl := Option.some.inj ho
    obtain rfl := h2 _ _ _ rfl
    obtain ⟨cs, hcs, cells, elem, lo, hi', hw, hm, hfr, hol, hrs⟩ := hsr.live _ _ _ _ h1
    rw [hb] at hcs
    obtain rfl := Option.some.inj hcs
    have hcell := hv.cells hck.2
    have hlen := hcell.length
    obtain ⟨hl1, hl2, hl3⟩ := lay_some hlay
    have hst := storeCells_ok (P := P) (k := o + off) y.cells.toList 0 w cells hw (hcell.singles hck.2) (by rw [← hlen]; omega) (by rw [hm]; exact hfr)
    have hp := set_ok (ρ := ρ) (I := I) (v := U) hset hsr h1 hb hw (l := spl cells.toList (o + off) y.cells.toList) (by rw [spl_length (by rw [← hlen]; simp; omega)]; simp) hl3 (hrs.lay hcell hlay (by simp; omega)) .sc
    refine ⟨_, ?_, hp⟩
    · simp only [Instr.storeAt, Instr.sureAddr, storeVar, Sem.run_bind, Sem.run_pure, Result.andThen, sizeOf_ok hi]
      rw [if_neg (by rw [← hsz, hlen]; simp)]
      exact hst
  | _ => simp only [fail_some] at h
end
end Go.Proofs.Ytjgdcifbhmjinaa.Ev
