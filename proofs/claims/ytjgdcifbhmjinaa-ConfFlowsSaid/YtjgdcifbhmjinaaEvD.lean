/- A region whose order is open: whatever order comes up, the same comes of it. -/
import Derived.Test.YtjgdcifbhmjinaaEvC
namespace Go.Proofs.Ytjgdcifbhmjinaa.Ev
open Go

section masks
theorem masks_length : ∀ (l : List Oper) (acc : List Nat), (masks l acc).length = acc.length + l.length
  | [], acc => by simp [masks]
  | o :: l, acc => by simp only [masks]; rw [masks_length l]; simp; omega
theorem masks_old : ∀ (l : List Oper) (acc : List Nat) (j : Nat), j < acc.length → (masks l acc).getD j 0 = acc.getD j 0
  | [], acc, j, h => rfl
  | o :: l, acc, j, h => by
    simp only [masks]
    rw [masks_old l _ j (by simp; omega)]
    simp [List.getD_eq_getElem?_getD, List.getElem?_append_left h]
theorem maskOf_bit {acc : List Nat} {k : Nat} : ∀ (es : List Edge), (maskOf acc es).testBit k = true → ∃ e ∈ es, Region.binds .any e = true ∧ (k = e.on ∨ (acc.getD e.on 0).testBit k = true)
  | [], h => by simp [maskOf] at h
  | e :: es, h => by
    simp only [maskOf] at h
    split at h
    · rename_i hb
      change ((2 ^ e.on ||| acc.getD e.on 0) ||| maskOf acc es).testBit k = true at h
      rw [Nat.testBit_or, Nat.testBit_or, Bool.or_eq_true, Bool.or_eq_true] at h
      rcases h with (h | h) | h
      · rw [Nat.testBit_two_pow] at h
        exact ⟨e, List.mem_cons_self, hb, .inl (by simp at h; omega)⟩
      · exact ⟨e, List.mem_cons_self, hb, .inr h⟩
      · obtain ⟨e', h1, h2⟩ := maskOf_bit es h
        exact ⟨e', List.mem_cons_of_mem _ h1, h2⟩
    · obtain ⟨e', h1, h2⟩ := maskOf_bit es h
      exact ⟨e', List.mem_cons_of_mem _ h1, h2⟩
/-- What a mask tells: an edge, or what is ahead of where the edge comes from. -/
theorem masks_bit : ∀ (l : List Oper) (acc : List Nat) (j k : Nat) (o : Oper), l[j]? = some o → ((masks l acc).getD (acc.length + j) 0).testBit k = true →
    ∃ e ∈ o.after.toList, Region.binds .any e = true ∧ (k = e.on ∨ ((masks l acc).getD e.on 0).testBit k = true)
  | [], acc, j, k, o, h, _ => by simp at h
  | o' :: l, acc, 0, k, o, h, hb => by
    simp only [List.getElem?_cons_zero, Option.some.injEq] at h
    subst h
    simp only [masks, Nat.add_zero] at hb
    rw [masks_old l _ acc.length (by simp)] at hb
    have : (acc ++ [maskOf acc o'.after.toList]).getD acc.length 0 = maskOf acc o'.after.toList := by simp [List.getD_eq_getElem?_getD]
    rw [this] at hb
    obtain ⟨e, h1, h2, h3⟩ := maskOf_bit _ hb
    refine ⟨e, h1, h2, h3.imp id (fun h3 => ?_)⟩
    have hlt : e.on < acc.length := by
      rcases Nat.lt_or_ge e.on acc.length with h | h
      · exact h
      · rw [List.getD_eq_getElem?_getD, List.getElem?_eq_none h] at h3
        simp at h3
    simp only [masks]
    rw [masks_old l _ e.on (by simp; omega)]
    rw [List.getD_eq_getElem?_getD] at h3 ⊢
    rwa [List.getElem?_append_left hlt]
  | o' :: l, acc, j + 1, k, o, h, hb => by
    simp only [List.getElem?_cons_succ] at h
    simp only [masks] at hb ⊢
    exact masks_bit l _ j k o h (by rw [List.length_append, List.length_singleton, show acc.length + 1 + j = acc.length + (j + 1) by omega]; exact hb)
end masks

section
variable {P : Program} {call : CallF} {nt : Nat} {ops : Array Oper}

theorem evDrawn_run (hm : ∀ f args, Made (call f args)) : ∀ (l : List Oper) (k : Nat), l = ops.toList.drop k → ∀ (a : Tr) (s : St) (fs : List Foot) (a' : Tr) (s' : St), evDrawn P call nt ops k l a s = some ((fs, a'), s') → s.base ≤ s.next → Inv s →
    ∃ (A : Nat → Tr) (S : Nat → St) (V : Nat → Val) (R W : Nat → List Nat), A k = a ∧ S k = s ∧ A (k + l.length) = a' ∧ S (k + l.length) = s' ∧
      fs = (List.range' k l.length).map (fun i => ⟨i, R i, W i, (S i).next, (S (i + 1)).next⟩) ∧ (∀ i, k ≤ i → i ≤ k + l.length → Inv (S i)) ∧
      (∀ i, k ≤ i → i < k + l.length → (S (i + 1)).base = (S i).base ∧ (∀ x ∈ (S i).rd, x ∈ (S (i + 1)).rd) ∧ (∀ x ∈ (S i).wr, x ∈ (S (i + 1)).wr) ∧ (∀ x ∈ R i, x < (S i).base → x ∈ (S (i + 1)).rd) ∧ (∀ x ∈ W i, x < (S i).base → x ∈ (S (i + 1)).wr)) ∧
      ∀ i o, k ≤ i → ops[i]? = some o → ∃ s', evGuarded P call ops (A i) o { S i with base := (S i).next, rd := [], wr := [] } = some (V i, s') ∧ evPut nt (A i) o.dst (V i) = some (A (i + 1)) ∧
        (S (i + 1)).mem = s'.mem ∧ (S (i + 1)).next = s'.next ∧ R i = s'.rd ∧ W i = s'.wr ∧ Loc { S i with base := (S i).next, rd := [], wr := [] } s' := by
  intro l
  induction l with
  | nil =>
    intro k hl a s fs a' s' h hb hi
    simp only [evDrawn, pure_some, Prod.mk.injEq] at h
    obtain ⟨⟨rfl, rfl⟩, rfl⟩ := h
    have hk : ops.size ≤ k := by
      have := congrArg List.length hl
      simp at this
      omega
    refine ⟨fun _ => a', fun _ => s', fun _ => U, fun _ => [], fun _ => [], rfl, rfl, rfl, rfl, rfl, fun _ _ _ => hi, fun i h1 h2 => (by simp at h2; omega), fun i o hi ho => ?_⟩
    have := (Array.getElem?_eq_some_iff.1 ho).1
    omega
  | cons o l ih =>
    intro k hl a s fs a' s' h hb hi
    have hk : k < ops.size := by
      rcases Nat.lt_or_ge k ops.size with h | h
      · exact h
      · rw [List.drop_eq_nil_of_le (by simpa using h)] at hl
        cases hl
    have hk' : k < ops.toList.length := by simpa using hk
    rw [List.drop_eq_getElem_cons hk'] at hl
    obtain ⟨ho, hl⟩ := List.cons.inj hl
    have ho' : ops[k]? = some o := by rw [ho]; simp [hk]
    simp only [evDrawn, bind_some, ofOpt_some, pure_some, Prod.mk.injEq] at h
    obtain ⟨⟨v, f⟩, s1, h1, a1, s2, ⟨hp, hs2⟩, ⟨fs', a2⟩, s3, h2, ⟨h3, h4⟩, h5⟩ := h
    subst hs2
    simp only at hp h2 h3 h4
    subst h5
    have hmg := Made.evGuarded (P := P) hm ops a o
    unfold fenced at h1
    cases hq : evGuarded P call ops a o { s with base := s.next, rd := [], wr := [] } with
    | none => rw [hq] at h1; cases h1
    | some r =>
      obtain ⟨v', s4⟩ := r
      rw [hq] at h1
      simp only [Option.some.injEq, Prod.mk.injEq] at h1
      obtain ⟨⟨rfl, rfl⟩, rfl⟩ := h1
      obtain ⟨lc, _⟩ := hmg.loc _ _ _ hq (Nat.le_refl _) hi
      have hn := lc.next
      simp only at hn
      obtain ⟨A, S, V, R, W, eA, eS, eA', eS', efs, eI, eN, est⟩ := ih (k + 1) hl _ _ _ _ _ h2 (by simp only; omega) lc.inv
      have hks : k + 1 + l.length = k + (l.length + 1) := by omega
      refine ⟨fun i => if i = k then a else A i, fun i => if i = k then s else S i, fun i => if i = k then v' else V i, fun i => if i = k then s4.rd else R i, fun i => if i = k then s4.wr else W i, if_pos rfl, if_pos rfl, ?_, ?_, ?_, ?_, ?_, ?_⟩
      · simp only [List.length_cons]
        rw [if_neg (by omega), ← hks, eA', h4]
      · simp only [List.length_cons]
        rw [if_neg (by omega), ← hks, eS']
      · simp only [List.length_cons]
        rw [h3, List.range'_succ, List.map_cons]
        congr 1
        · rw [if_pos rfl, if_pos rfl, if_pos rfl, if_neg (by omega), eS]
        · rw [efs]
          apply List.map_congr_left
          intro i hi
          have := List.mem_range'.1 hi
          rw [if_neg (by omega), if_neg (by omega), if_neg (by omega), if_neg (by omega)]
      · intro i h1 h2
        simp only
        split
        · exact hi
        · exact eI i (by omega) (by rw [List.length_cons] at h2; omega)
      · intro i h1 h2
        rw [List.length_cons] at h2
        simp only
        by_cases e : i = k
        · subst e
          rw [if_pos rfl, if_pos rfl, if_pos rfl, if_neg (by omega), eS]
          exact ⟨rfl, fun x h => mem_joinN.2 (.inl h), fun x h => mem_joinN.2 (.inl h), fun x h h' => mem_joinN.2 (.inr ⟨h, h'⟩), fun x h h' => mem_joinN.2 (.inr ⟨h, h'⟩)⟩
        · rw [if_neg e, if_neg e, if_neg e, if_neg (by omega)]
          exact eN i (by omega) (by omega)
      · intro i o1 hik ho1
        simp only
        by_cases e : i = k
        · subst e
          rw [ho'] at ho1
          obtain rfl := Option.some.inj ho1
          rw [if_pos rfl, if_pos rfl, if_pos rfl, if_pos rfl, if_pos rfl, if_neg (by omega), if_neg (by omega), eA, eS]
          exact ⟨s4, hq, hp, rfl, rfl, rfl, rfl, lc⟩
        · rw [if_neg e, if_neg e, if_neg e, if_neg e, if_neg e, if_neg (by omega), if_neg (by omega)]
          exact est i o1 (by omega) ho1

theorem evOp_congr {r r' : Operand → Val} (o : Oper) (hs : noPick o = true) (h : ∀ x ∈ o.op.operands, r x = r' x) : evOp P call r o = evOp P call r' o := by
  have hsel : ∀ cs b, o.op ≠ .select cs b := by
    intro cs b e
    unfold noPick at hs
    rw [e] at hs
    cases hs
  have hsc : evScalar P r o = evScalar P r' o := by
    unfold evScalar
    have e1 : (o.op.operands.all fun x => (r x).val?.isSome) = (o.op.operands.all fun x => (r' x).val?.isSome) := by
      rw [Bool.eq_iff_iff, Array.all_eq_true', Array.all_eq_true']
      exact ⟨fun k x hx => by rw [← h x hx]; exact k x hx, fun k x hx => by rw [h x hx]; exact k x hx⟩
    have e2 : execOp (fun x => (r x).val?.getD undef) o = execOp (fun x => (r' x).val?.getD undef) o := execOp_congr o hsel (fun x hx => by simp only [h x hx])
    rw [e1, e2]
  have parts : ∀ ps : Array (Nat × Operand), (∀ p ∈ ps.toList, r p.2 = r' p.2) → (ps.toList.map fun p => (p.1, r p.2)) = (ps.toList.map fun p => (p.1, r' p.2)) := fun ps k =>
    List.map_congr_left fun p hp => by rw [k p hp]
  have arrs : ∀ l : Array Operand, (∀ x ∈ l, r x = r' x) → l.toList.map r = l.toList.map r' := fun l k => List.map_congr_left fun x hx => k x (by simpa using hx)
  have opt : ∀ x : Option Operand, (∀ y ∈ x, r y = r' y) → x.map r = x.map r' := by
    intro x k
    cases x with
    | none => rfl
    | some x => simp only [Option.map_some, k x rfl]
  unfold evOp
  cases hop : o.op <;> rw [hop] at h <;> simp only [Op.operands] at h <;> simp only [hsc]
  case move x => rw [h x (by simp)]
  case assign x => rw [h x (by simp)]
  case pick c a b => rw [h c (by simp), h a (by simp), h b (by simp)]
  case box t x => rw [h x (by simp)]
  case build t ps => rw [parts ps (fun p hp => h p.2 (by simp; exact ⟨p.1, by simpa using hp⟩))]
  case buildSlice t n ps => rw [parts ps (fun p hp => h p.2 (by simp; exact ⟨p.1, by simpa using hp⟩))]
  case load t a => rw [h a (by simp)]
  case store t a x => rw [h a (by simp), h x (by simp)]
  case nilCheck x => rw [h x (by simp)]
  case makeInterface t x => rw [h x (by simp)]
  case makeFunc f first cap => rw [arrs first (fun x hx => h x (by simp [hx])), arrs cap (fun x hx => h x (by simp [hx]))]
  case makeSlice t l c => rw [h l (by simp), h c (by simp)]
  case slice t x lo hi mx => rw [h x (by simp), opt lo (fun y hy => h y (by cases hy; simp)), opt hi (fun y hy => h y (by cases hy; simp)), opt mx (fun y hy => h y (by cases hy; simp))]
  case fieldAddr t x f => rw [h x (by simp)]
  case field t x f => rw [h x (by simp)]
  case indexAddr t x i => rw [h x (by simp), h i (by simp)]
  case index t x i => rw [h x (by simp), h i (by simp)]
  case extract x i => rw [h x (by simp)]
  case typeAssert x xt t ok => rw [h x (by simp)]
  case binOp op t x y yt => rw [h x (by simp), h y (by simp)]
  case convert src dst x => rw [h x (by simp)]
  case call c =>
    have hargs : c.args.toList.map r = c.args.toList.map r' := arrs c.args (fun x hx => h x (by simp [Call.operands, hx]))
    unfold evCall
    rw [hargs, hsc]
    cases hc : c.callee with
    | value f => simp only [h f (by simp [Call.operands, hc])]
    | builtin b => rfl
    | invoke r m => rfl

theorem evGuarded_congr {a a' : Tr} (o : Oper) (hs : noPick o = true) (h : ∀ t ∈ o.looksAt ops, a.get t = a'.get t) : evGuarded P call ops a o = evGuarded P call ops a' o := by
  have hw : evWanted ops a o = evWanted ops a' o := by
    unfold evWanted
    cases hg : o.guard with
    | none => rfl
    | some g =>
      obtain ⟨j, b⟩ := g
      have : evYield ops a j = evYield ops a' j := by
        unfold evYield
        cases hd : (ops[j]?).bind (·.dst) with
        | none => rfl
        | some t => simp only [h t (by unfold Oper.looksAt; rw [hg]; simp [hd])]
      simp only [this]
  unfold evGuarded
  simp only [evOpF_eq]
  rw [hw]
  have ho : evOp P call (evOperand a) o = evOp P call (evOperand a') o := evOp_congr o hs (fun x hx => by
    cases x with
    | tmp t => exact h t (by unfold Oper.looksAt; exact List.mem_append_left _ (List.mem_filterMap.2 ⟨.tmp t, by simpa using hx, rfl⟩))
    | const v => rfl
    | global g => rfl
    | func f => rfl)
  rw [ho]
end

section order
theorem has_iff {k : Nat} : ∀ {l : List Nat}, has k l = true ↔ k ∈ l
  | [] => by simp [has_nil]
  | j :: l => by
    rw [has_c]
    split
    · rename_i h
      obtain rfl := Nat.eq_of_beq_eq_true h
      simp
    · rename_i h
      have := Nat.ne_of_beq_eq_false h
      rw [has_iff (l := l), List.mem_cons]
      exact ⟨.inr, fun h => h.resolve_left (fun e => this e.symm)⟩
theorem meets_false {l r : List Nat} (h : meets l r = false) : ∀ k, k ∈ l → k ∉ r := by
  induction l with
  | nil => intro k hk; cases hk
  | cons j l ih =>
    simp only [meets] at h
    split at h
    · cases h
    · rename_i hj
      intro k hk hr
      rcases List.mem_cons.1 hk with rfl | hk
      · rw [has_iff.2 hr] at hj; cases hj
      · exact ih h k hk hr
theorem within_false {lo hi : Nat} {l : List Nat} (h : within lo hi l = false) : ∀ k ∈ l, ¬ (lo ≤ k ∧ k < hi) := by
  induction l with
  | nil => intro k hk; cases hk
  | cons j l ih =>
    simp only [within] at h
    split at h
    · cases h
    · rename_i hj
      intro k hk ⟨h1, h2⟩
      rcases List.mem_cons.1 hk with rfl | hk
      · rw [Nat.ble_eq_true_of_le h1, Nat.ble_eq_true_of_le h2] at hj; cases hj
      · exact ih h k hk ⟨h1, h2⟩
theorem apart_true {x y : Foot} (h : apart x y = true) : (∀ k ∈ x.wr, k ∉ y.rd) ∧ (∀ k ∈ x.wr, k ∉ y.wr) ∧ (∀ k ∈ y.wr, k ∉ x.rd) ∧ (∀ k ∈ y.rd, ¬ (x.lo ≤ k ∧ k < x.hi)) ∧ (∀ k ∈ y.wr, ¬ (x.lo ≤ k ∧ k < x.hi)) := by
  unfold apart at h
  simp only [Bool.not_eq_true', Bool.or_eq_false_iff] at h
  obtain ⟨⟨⟨⟨h1, h2⟩, h3⟩, h4⟩, h5⟩ := h
  exact ⟨meets_false h1, meets_false h2, meets_false h3, within_false h4, within_false h5⟩
theorem clash_pair {B : List Nat} {g : Nat → Foot} : ∀ (n k : Nat), clashFree B ((List.range' k n).map g) = true → ∀ i j, k ≤ i → i < j → j < k + n → apart (g i) (g j) = true ∨ (B.getD (g j).at_ 0).testBit (g i).at_ = true
  | 0, k, _, i, j, h1, h2, h3 => by omega
  | n + 1, k, h, i, j, h1, h2, h3 => by
    rw [List.range'_succ, List.map_cons] at h
    simp only [clashFree, Bool.and_eq_true, List.all_eq_true, Bool.or_eq_true] at h
    by_cases e : i = k
    · subst e
      exact h.1 (g j) (List.mem_map.2 ⟨j, List.mem_range'.2 ⟨j - (i + 1), by omega, by omega⟩, rfl⟩)
    · exact clash_pair n (k + 1) h.2 i j (by omega) h2 (by omega)
theorem slots_pair {ops : Array Oper} {B : List Nat} : ∀ (l : List Oper) (k : Nat), slotsOk ops B k l = true → ∀ (i j : Nat) (x y : Oper), l[i]? = some x → l[j]? = some y → i < j → slotsApart ops x y = true ∨ (B.getD (k + j) 0).testBit (k + i) = true
  | [], k, _, i, j, x, y, h1, _, _ => by simp at h1
  | o :: l, k, h, 0, j + 1, x, y, h1, h2, h3 => by
    simp only [List.getElem?_cons_zero, Option.some.injEq] at h1
    subst h1
    simp only [List.getElem?_cons_succ] at h2
    simp only [slotsOk, Bool.and_eq_true, List.all_eq_true, Bool.or_eq_true] at h
    have := h.1 (y, k + 1 + j) (by
      rw [List.mem_iff_getElem?]
      exact ⟨j, by rw [List.getElem?_zipIdx, h2]; rfl⟩)
    rw [show k + (j + 1) = k + 1 + j by omega]
    simpa using this
  | o :: l, k, h, i + 1, j + 1, x, y, h1, h2, h3 => by
    simp only [List.getElem?_cons_succ] at h1 h2
    simp only [slotsOk, Bool.and_eq_true] at h
    have := slots_pair l (k + 1) h.2 i j x y h1 h2 (by omega)
    rw [show k + (j + 1) = k + 1 + j by omega, show k + (i + 1) = k + 1 + i by omega]
    exact this
  | o :: l, k, h, i, 0, x, y, h1, h2, h3 => by omega
theorem slots_true {ops : Array Oper} {x y : Oper} (h : slotsApart ops x y = true) : (∀ d, x.dst = some d → d ∉ y.looksAt ops ∧ y.dst ≠ some d) ∧ (∀ d, y.dst = some d → d ∉ x.looksAt ops ∧ x.dst ≠ some d) := by
  unfold slotsApart at h
  simp only [Bool.and_eq_true] at h
  refine ⟨fun d hd => ?_, fun d hd => ?_⟩
  · rw [hd] at h
    simpa using h.1
  · rw [hd] at h
    refine ⟨by simpa using h.2, fun e => ?_⟩
    rw [e] at h
    simp at h
theorem edges_at : ∀ (l : List Oper) (k : Nat), edgesOk k l = true → ∀ (i : Nat) (o : Oper), l[i]? = some o → ∀ e ∈ o.after.toList, Region.binds .any e = true → e.on < k + i
  | [], k, _, i, o, h, _, _, _ => by simp at h
  | o' :: l, k, h, 0, o, ho, e, he, hb => by
    simp only [List.getElem?_cons_zero, Option.some.injEq] at ho
    subst ho
    simp only [edgesOk, Bool.and_eq_true, List.all_eq_true, Bool.or_eq_true, Bool.not_eq_true'] at h
    rcases h.1 e he with h1 | h1
    · rw [hb] at h1; cases h1
    · exact Nat.le_of_ble_eq_true h1
  | o' :: l, k, h, i + 1, o, ho, e, he, hb => by
    simp only [List.getElem?_cons_succ] at ho
    simp only [edgesOk, Bool.and_eq_true] at h
    have := edges_at l (k + 1) h.2 i o ho e he hb
    omega

def falses : List Bool → Nat
  | [] => 0
  | true :: l => falses l
  | false :: l => falses l + 1
theorem falses_set : ∀ (l : List Bool) (i : Nat), l[i]? = some false → falses (l.set i true) + 1 = falses l
  | [], i, h => by simp at h
  | b :: l, 0, h => by
    simp only [List.getElem?_cons_zero, Option.some.injEq] at h
    subst h
    rfl
  | b :: l, i + 1, h => by
    simp only [List.getElem?_cons_succ] at h
    have := falses_set l i h
    cases b <;> simp only [List.set_cons_succ, falses] <;> omega
theorem falses_zero : ∀ (l : List Bool), falses l = 0 → ∀ b ∈ l, b = true
  | [], _, b, h => by cases h
  | true :: l, h, b, hb => by
    rcases List.mem_cons.1 hb with rfl | hb
    · rfl
    · exact falses_zero l h b hb
  | false :: l, h, b, hb => by simp [falses] at h
theorem falses_replicate (n : Nat) : falses (List.replicate n false) = n := by
  induction n with
  | zero => rfl
  | succ n ih => rw [List.replicate_succ]; simp [falses, ih]
end order

theorem SR.congr {ρ : Rho} {I : Im} {m m' : List (Nat × List Val)} {w : World} (h : SR ρ I m w) (e : ∀ id, look id m' = look id m) : SR ρ I m' w :=
  ⟨fun id b o n h' => by rw [e]; exact h.live id b o n h', fun id c h' => h.mem id c (by rw [← e]; exact h'), h.inj, h.im, h.aside, h.env⟩
theorem AR.congr {ρ : Rho} {I : Im} {nt : Nat} {a a' : Tr} {act : Act} (h : AR ρ I nt a act) (e : ∀ t, a'.get t = a.get t) : AR ρ I nt a' act := ⟨h.size, h.few, fun t => by rw [e]; exact h.val t, h.still⟩

section any
/-- The memory when just some have run. -/
noncomputable def memAt (m0 : List (Nat × List Val)) (S : Nat → St) (W : Nat → List Nat) (b : Nat → Bool) : Nat → Nat → Option (List Val)
  | 0, x => look x m0
  | i + 1, x => if b i = true ∧ (x ∈ W i ∨ ((S i).next ≤ x ∧ x < (S (i + 1)).next)) then look x (S (i + 1)).mem else memAt m0 S W b i x
/-- The slots. -/
noncomputable def trOf (ops : Array Oper) (a : Tr) (V : Nat → Val) (b : Nat → Bool) : Nat → Tr
  | 0 => a
  | i + 1 => if b i = true then (match (ops[i]?).bind (·.dst) with
    | some d => (trOf ops a V b i).put d (V i)
    | none => trOf ops a V b i) else trOf ops a V b i

variable {P : Program} {call : CallF} {nt : Nat} {ops : Array Oper} {A : Nat → Tr} {m0 : List (Nat × List Val)} {S : Nat → St} {V : Nat → Val} {R W : Nat → List Nat}

theorem memAt_congr {b b' : Nat → Bool} {x : Nat} : ∀ n, (∀ i, i < n → (x ∈ W i ∨ ((S i).next ≤ x ∧ x < (S (i + 1)).next)) → b i = b' i) → memAt m0 S W b n x = memAt m0 S W b' n x
  | 0, _ => rfl
  | n + 1, h => by
    simp only [memAt]
    rw [memAt_congr n (fun i hi => h i (by omega))]
    by_cases ha : x ∈ W n ∨ ((S n).next ≤ x ∧ x < (S (n + 1)).next)
    · rw [h n (by omega) ha]
    · rw [if_neg (fun h => ha h.2), if_neg (fun h => ha h.2)]
theorem memAt_skip {b : Nat → Bool} {x k : Nat} : ∀ n, k ≤ n → (∀ i, k ≤ i → i < n → b i = true → ¬ (x ∈ W i ∨ ((S i).next ≤ x ∧ x < (S (i + 1)).next))) → memAt m0 S W b n x = memAt m0 S W b k x
  | 0, hk, _ => by rw [show k = 0 by omega]
  | n + 1, hk, h => by
    by_cases e : k = n + 1
    · rw [e]
    · simp only [memAt]
      rw [if_neg (fun hh => h n (by omega) (by omega) hh.1 hh.2)]
      exact memAt_skip n (by omega) (fun i h1 h2 => h i h1 (by omega))
theorem trOf_congr {b b' : Nat → Bool} {a : Tr} {t : Nat} (hd : ∀ (i d : Nat), (ops[i]?).bind (·.dst) = some d → d < 65000) : ∀ n : Nat, (∀ i : Nat, i < n → (ops[i]?).bind (·.dst) = some t → b i = b' i) → (trOf ops a V b n).get t = (trOf ops a V b' n).get t
  | 0, _ => rfl
  | n + 1, h => by
    have ih := trOf_congr (a := a) hd n (fun i hi => h i (by omega))
    have out : ∀ b : Nat → Bool, (trOf ops a V b (n + 1)).get t = if b n = true ∧ (ops[n]?).bind (·.dst) = some t then V n else (trOf ops a V b n).get t := by
      intro b
      simp only [trOf]
      split
      · rename_i hb
        split
        · rename_i d he
          rw [get_put (hd n d he)]
          by_cases e : t = d
          · subst e; rw [if_pos rfl, if_pos ⟨hb, he⟩]
          · rw [if_neg e, if_neg (fun h => e (by rw [he] at h; exact (Option.some.inj h.2).symm))]
        · rename_i he
          rw [if_neg (fun h => by rw [he] at h; cases h.2)]
      · rename_i hb
        rw [if_neg (fun h => hb h.1)]
    rw [out b, out b', ih]
    by_cases he : (ops[n]?).bind (·.dst) = some t
    · rw [h n (by omega) he]
    · rw [if_neg (fun h => he h.2), if_neg (fun h => he h.2)]
theorem trOf_get {b : Nat → Bool} {a : Tr} {t : Nat} (hd : ∀ (i d : Nat), (ops[i]?).bind (·.dst) = some d → d < 65000) (n : Nat) :
    (trOf ops a V b (n + 1)).get t = if b n = true ∧ (ops[n]?).bind (·.dst) = some t then V n else (trOf ops a V b n).get t := by
  simp only [trOf]
  split
  · rename_i hb
    split
    · rename_i d he
      rw [get_put (hd n d he)]
      by_cases e : t = d
      · subst e; rw [if_pos rfl, if_pos ⟨hb, he⟩]
      · rw [if_neg e, if_neg (fun h => e (by rw [he] at h; exact (Option.some.inj h.2).symm))]
    · rename_i he
      rw [if_neg (fun h => by rw [he] at h; cases h.2)]
  · rename_i hb
    rw [if_neg (fun h => hb h.1)]
theorem trOf_skip {b : Nat → Bool} {a : Tr} {t k : Nat} (hd : ∀ (i d : Nat), (ops[i]?).bind (·.dst) = some d → d < 65000) : ∀ n : Nat, k ≤ n → (∀ i : Nat, k ≤ i → i < n → b i = true → (ops[i]?).bind (·.dst) ≠ some t) → (trOf ops a V b n).get t = (trOf ops a V b k).get t
  | 0, hk, _ => by rw [show k = 0 by omega]
  | n + 1, hk, h => by
    by_cases e : k = n + 1
    · rw [e]
    · rw [trOf_get hd n, if_neg (fun hh => h n (by omega) (by omega) hh.1 hh.2)]
      exact trOf_skip hd n (by omega) (fun i h1 h2 => h i h1 (by omega))

/-- All that is asked of the run in the text's order. -/
structure Setting (P : Program) (call : CallF) (nt : Nat) (ops : Array Oper) (A : Nat → Tr) (m0 : List (Nat × List Val)) (S : Nat → St) (V : Nat → Val) (R W : Nat → List Nat) : Prop where
  step : ∀ i o, ops[i]? = some o → ∃ s', evGuarded P call ops (A i) o { S i with base := (S i).next, rd := [], wr := [] } = some (V i, s') ∧ evPut nt (A i) o.dst (V i) = some (A (i + 1)) ∧
    (S (i + 1)).mem = s'.mem ∧ (S (i + 1)).next = s'.next ∧ R i = s'.rd ∧ W i = s'.wr ∧ Loc { S i with base := (S i).next, rd := [], wr := [] } s'
  inv : ∀ i, i ≤ ops.size → Inv (S i)
  notes : ∀ i, i < ops.size → (S (i + 1)).base = (S i).base ∧ (∀ x ∈ (S i).rd, x ∈ (S (i + 1)).rd) ∧ (∀ x ∈ (S i).wr, x ∈ (S (i + 1)).wr) ∧ (∀ x ∈ R i, x < (S i).base → x ∈ (S (i + 1)).rd) ∧ (∀ x ∈ W i, x < (S i).base → x ∈ (S (i + 1)).wr)
  base : (S 0).base ≤ (S 0).next
  agree : ∀ x, Touch (S 0) (S ops.size) x → look x m0 = look x (S 0).mem
  few : nt ≤ 65000
  edges : edgesOk 0 ops.toList = true
  picks : ops.toList.all noPick = true
  slots : slotsOk ops (masks ops.toList []) 0 ops.toList = true
  clash : clashFree (masks ops.toList []) ((List.range' 0 ops.size).map (fun i => ⟨i, R i, W i, (S i).next, (S (i + 1)).next⟩)) = true

theorem opAt {ops : Array Oper} {i : Nat} (h : i < ops.size) : ∃ o, ops[i]? = some o := ⟨ops[i], by simp [h]⟩

namespace Setting
variable (X : Setting P call nt ops A m0 S V R W)
include X

theorem dst_few (i d : Nat) (h : (ops[i]?).bind (·.dst) = some d) : d < 65000 := by
  cases ho : ops[i]? with
  | none => rw [ho] at h; cases h
  | some o =>
    rw [ho] at h
    simp only [Option.bind_some] at h
    obtain ⟨s', _, hp, _⟩ := X.step i o ho
    rw [h] at hp
    simp only [evPut] at hp
    cases hb : Nat.ble (d + 1) nt with
    | false => rw [hb] at hp; cases hp
    | true =>
      have := Nat.le_of_ble_eq_true hb
      have := X.few
      omega
theorem mono1 {i : Nat} (h : i < ops.size) : (S i).next ≤ (S (i + 1)).next := by
  obtain ⟨o, ho⟩ := opAt h
  obtain ⟨s', _, _, _, e, _, _, l⟩ := X.step i o ho
  rw [e]
  exact l.next
theorem mono {i j : Nat} (h : i ≤ j) (hj : j ≤ ops.size) : (S i).next ≤ (S j).next := by
  induction j with
  | zero => rw [show i = 0 by omega]; exact Nat.le_refl _
  | succ j ih =>
    by_cases e : i = j + 1
    · rw [e]; exact Nat.le_refl _
    · exact Nat.le_trans (ih (by omega) (by omega)) (X.mono1 (by omega))
theorem rdOld {i x : Nat} (h : i < ops.size) (hx : x ∈ R i) : x < (S i).next := by
  obtain ⟨o, ho⟩ := opAt h
  obtain ⟨s', _, _, _, _, e, _, l⟩ := X.step i o ho
  rw [e] at hx
  exact (l.rdOld x hx).resolve_left (by simp)
theorem wrOld {i x : Nat} (h : i < ops.size) (hx : x ∈ W i) : x < (S i).next := by
  obtain ⟨o, ho⟩ := opAt h
  obtain ⟨s', _, _, _, _, _, e, l⟩ := X.step i o ho
  rw [e] at hx
  exact (l.wrOld x hx).resolve_left (by simp)
theorem bases {i : Nat} (h : i ≤ ops.size) : (S i).base = (S 0).base := by
  induction i with
  | zero => rfl
  | succ i ih => rw [(X.notes i (by omega)).1, ih (by omega)]
theorem rdUp {i j x : Nat} (h : i ≤ j) (hj : j ≤ ops.size) (hx : x ∈ (S i).rd) : x ∈ (S j).rd := by
  induction j with
  | zero => rw [show i = 0 by omega] at hx; exact hx
  | succ j ih =>
    by_cases e : i = j + 1
    · rw [← e]; exact hx
    · exact (X.notes j (by omega)).2.1 x (ih (by omega) (by omega))
theorem wrUp {i j x : Nat} (h : i ≤ j) (hj : j ≤ ops.size) (hx : x ∈ (S i).wr) : x ∈ (S j).wr := by
  induction j with
  | zero => rw [show i = 0 by omega] at hx; exact hx
  | succ j ih =>
    by_cases e : i = j + 1
    · rw [← e]; exact hx
    · exact (X.notes j (by omega)).2.2.1 x (ih (by omega) (by omega))
theorem alter {i x : Nat} (hi : i < ops.size) (hx : x ∈ W i ∨ ((S i).next ≤ x ∧ x < (S (i + 1)).next)) : Alter (S 0) (S ops.size) x := by
  have m1 := X.mono (i := i + 1) (j := ops.size) (by omega) (Nat.le_refl _)
  have m2 := X.mono (i := 0) (j := i) (by omega) (by omega)
  have m3 := X.mono1 hi
  have hb := X.base
  rcases hx with h | h
  · have := X.wrOld hi h
    rcases Nat.lt_or_ge x (S 0).base with h1 | h1
    · exact .inl (X.wrUp (i := i + 1) (by omega) (Nat.le_refl _) ((X.notes i hi).2.2.2.2 x h (by rw [X.bases (by omega)]; exact h1)))
    · exact .inr ⟨h1, by omega⟩
  · exact .inr ⟨by omega, by omega⟩
theorem touch {i x : Nat} (hi : i < ops.size) (hx : x ∈ R i ∨ x ∈ W i ∨ ((S i).next ≤ x ∧ x < (S (i + 1)).next)) : Touch (S 0) (S ops.size) x := by
  rcases hx with h | h
  · have m1 := X.mono (i := i + 1) (j := ops.size) (by omega) (Nat.le_refl _)
    have m3 := X.mono1 hi
    have := X.rdOld hi h
    rcases Nat.lt_or_ge x (S 0).base with h1 | h1
    · exact .inl (X.rdUp (i := i + 1) (by omega) (Nat.le_refl _) ((X.notes i hi).2.2.2.1 x h (by rw [X.bases (by omega)]; exact h1)))
    · exact .inr (.inr ⟨h1, by omega⟩)
  · exact .inr (X.alter hi h)
theorem whole {b : Nat → Bool} {x : Nat} (hx : Touch (S 0) (S ops.size) x) : ∀ i, i ≤ ops.size → (∀ j, j < i → b j = true) → memAt m0 S W b i x = look x (S i).mem
  | 0, _, _ => X.agree x hx
  | i + 1, hi, hb => by
    simp only [memAt]
    rw [whole hx i (by omega) (fun j hj => hb j (by omega))]
    split
    · rfl
    · rename_i hn
      have hn : ¬ (x ∈ W i ∨ ((S i).next ≤ x ∧ x < (S (i + 1)).next)) := fun h => hn ⟨hb i (by omega), h⟩
      obtain ⟨o, ho⟩ := opAt (ops := ops) (i := i) (by omega)
      obtain ⟨s', _, _, e1, e2, _, e3, l⟩ := X.step i o ho
      rcases Nat.lt_or_ge x (S i).next with h1 | h1
      · rw [e1]
        exact (l.same x h1 (by rw [← e3]; exact fun h => hn (.inl h))).symm
      · have h2 : (S (i + 1)).next ≤ x := by
          rcases Nat.lt_or_ge x (S (i + 1)).next with h | h
          · exact absurd (.inr ⟨h1, h⟩) hn
          · exact h
        have n1 : look x (S i).mem = none := by
          cases hl : look x (S i).mem with
          | none => rfl
          | some c => have := X.inv i (by omega) x c hl; omega
        have n2 : look x (S (i + 1)).mem = none := by
          cases hl : look x (S (i + 1)).mem with
          | none => rfl
          | some c => have := X.inv (i + 1) hi x c hl; omega
        rw [n1, n2]
theorem wholeT {b : Nat → Bool} {t : Nat} : ∀ i, i ≤ ops.size → (∀ j, j < i → b j = true) → (trOf ops (A 0) V b i).get t = (A i).get t
  | 0, _, _ => rfl
  | i + 1, hi, hb => by
    rw [trOf_get X.dst_few i, wholeT i (by omega) (fun j hj => hb j (by omega))]
    obtain ⟨o, ho⟩ := opAt (ops := ops) (i := i) (by omega)
    obtain ⟨s', _, hp, _⟩ := X.step i o ho
    cases hd : o.dst with
    | none =>
      rw [hd] at hp
      simp only [evPut, Option.some.injEq] at hp
      rw [← hp, if_neg (fun h => by rw [ho] at h; simp [hd] at h)]
    | some d =>
      have hdf := X.dst_few i d (by rw [ho]; exact hd)
      rw [hd] at hp
      simp only [evPut] at hp
      cases hbl : Nat.ble (d + 1) nt with
      | false => rw [hbl] at hp; cases hp
      | true =>
        rw [hbl] at hp
        simp only [Option.some.injEq] at hp
        rw [← hp, get_put hdf]
        by_cases e : t = d
        · subst e
          rw [if_pos rfl, if_pos ⟨hb i (by omega), by rw [ho]; exact hd⟩]
        · rw [if_neg e, if_neg (fun h => by rw [ho] at h; simp [hd] at h; exact e h.2.symm)]

/-- i is ahead of j. -/
abbrev ahead (_ : Setting P call nt ops A m0 S V R W) (i j : Nat) : Prop := ((masks ops.toList []).getD j 0).testBit i = true
theorem pair {i j : Nat} (h : i < j) (hj : j < ops.size) (hn : ¬ X.ahead i j) : apart ⟨i, R i, W i, (S i).next, (S (i + 1)).next⟩ ⟨j, R j, W j, (S j).next, (S (j + 1)).next⟩ = true :=
  (clash_pair ops.size 0 X.clash i j (Nat.zero_le _) h (by omega)).resolve_right hn
theorem pairT {i j : Nat} {x y : Oper} (h : i < j) (hx : ops[i]? = some x) (hy : ops[j]? = some y) (hn : ¬ X.ahead i j) : slotsApart ops x y = true := by
  have := slots_pair ops.toList 0 X.slots i j x y (by simpa using hx) (by simpa using hy) h
  rw [Nat.zero_add, Nat.zero_add] at this
  exact this.resolve_right hn

/-- What i touches, another one that may come before or behind it does not alter. -/
theorem off {i j x : Nat} (hi : i < ops.size) (hj : j < ops.size) (hne : i ≠ j) (h1 : i < j → ¬ X.ahead i j) (h2 : j < i → ¬ X.ahead j i) (hx : x ∈ R i ∨ x ∈ W i ∨ ((S i).next ≤ x ∧ x < (S (i + 1)).next)) :
    ¬ (x ∈ W j ∨ ((S j).next ≤ x ∧ x < (S (j + 1)).next)) := by
  rcases Nat.lt_or_gt_of_ne hne with h | h
  · obtain ⟨a1, a2, a3, a4, a5⟩ := apart_true (X.pair h hj (h1 h))
    simp only at a1 a2 a3 a4 a5
    have m1 := X.mono (i := i + 1) (j := j) (by omega) (by omega)
    have m2 := X.mono1 hi
    rintro (k | k)
    · rcases hx with q | q | q
      · exact a3 x k q
      · exact a2 x q k
      · exact a5 x k q
    · rcases hx with q | q | q
      · have := X.rdOld hi q; omega
      · have := X.wrOld hi q; omega
      · omega
  · obtain ⟨a1, a2, a3, a4, a5⟩ := apart_true (X.pair h hi (h2 h))
    simp only at a1 a2 a3 a4 a5
    have m1 := X.mono (i := j + 1) (j := i) (by omega) (by omega)
    have m2 := X.mono1 hj
    rintro (k | k)
    · rcases hx with q | q | q
      · exact a1 x k q
      · exact a2 x k q
      · have := X.wrOld hj k; omega
    · rcases hx with q | q | q
      · exact a4 x q k
      · exact a5 x q k
      · omega
theorem offT {i j : Nat} {x y : Oper} (hx : ops[i]? = some x) (hy : ops[j]? = some y) (hne : i ≠ j) (h1 : i < j → ¬ X.ahead i j) (h2 : j < i → ¬ X.ahead j i) : ∀ d, y.dst = some d → d ∉ x.looksAt ops ∧ x.dst ≠ some d := by
  rcases Nat.lt_or_gt_of_ne hne with h | h
  · exact (slots_true (X.pairT h hx hy (h1 h))).2
  · exact (slots_true (X.pairT h hy hx (h2 h))).1
end Setting

/-- What holds when just some have run. -/
structure Mid (X : Setting P call nt ops A m0 S V R W) (ρ : Rho) (I : Im) (listed : Array Bool) (act : Act) (w : World) : Prop where
  size : listed.size = ops.size
  closed : ∀ j, listed.getD j false = true → ∀ i, X.ahead i j → listed.getD i false = true
  holds : ∃ ρ' I' m, Le ρ ρ' ∧ Sub I I' ∧ (∀ x, look x m = memAt m0 S W (fun i => listed.getD i false) ops.size x) ∧ SR ρ' I' m w ∧ AR ρ' I' nt (trOf ops (A 0) V (fun i => listed.getD i false) ops.size) act ∧
    (∀ id, ρ' id ≠ none → ρ id ≠ none ∨ ∃ j, j < ops.size ∧ listed.getD j false = true ∧ (S j).next ≤ id ∧ id < (S (j + 1)).next)

theorem getD_set {l : Array Bool} {i j : Nat} (hi : i < l.size) : (l.setIfInBounds i true).getD j false = if j = i then true else l.getD j false := by
  by_cases e : j = i
  · subst e
    simp [hi]
  · simp [Array.getElem?_setIfInBounds_ne (fun h => e h.symm), e]

theorem any_ok (X : Setting P call nt ops A m0 S V R W) (hc : CallOK P call) (hm : ∀ f args, Made (call f args)) {ρ : Rho} {I : Im} {Q : Exit → Act → World → Prop} (hf : Free ρ (S 0) (S ops.size)) {m1 : List (Nat × List Val)}
    (hm1 : ∀ x, Touch (S 0) (S ops.size) x → look x m1 = look x (S ops.size).mem) (hm2 : ∀ x, ¬ Alter (S 0) (S ops.size) x → look x m1 = look x m0)
    (hQ : ∀ act' w', CPost ρ I (S 0) { S ops.size with mem := m1 } nt (A ops.size) act' w' → Q .normal act' w') : ∀ (fuel : Nat) (listed : Array Bool) (act : Act) (w : World), falses listed.toList = fuel → Mid X ρ I listed act w →
    wpAny P .any ops Q fuel listed act w := by
  have done : ∀ (listed : Array Bool) (act : Act) (w : World), Mid X ρ I listed act w → Region.ready .any ops listed = [] → Q .normal act w := by
    intro listed act w M hr
    have all : ∀ i, i < ops.size → listed.getD i false = true := by
      intro i
      induction i using Nat.strongRecOn with
      | _ i ih =>
        intro hi
        cases hl : listed.getD i false with
        | true => rfl
        | false =>
          exfalso
          obtain ⟨o, ho⟩ := opAt hi
          have : i ∈ Region.ready .any ops listed := by
            unfold Region.ready
            rw [List.mem_filter]
            refine ⟨List.mem_range.2 hi, ?_⟩
            have h1 : listed.getD i true = false := by
              have hs := M.size
              have : i < listed.size := by omega
              simp [this] at hl ⊢
              exact hl
            rw [h1, ho]
            simp only [Option.map_some, Option.getD_some, Bool.not_false, Bool.true_and]
            rw [Array.all_eq_true']
            intro e he
            cases hb : Region.binds .any e with
            | false => rfl
            | true =>
              have := edges_at ops.toList 0 X.edges i o (by simpa using ho) e (by simpa using he) hb
              simp only [Bool.not_true, Bool.false_or]
              exact ih e.on (by omega) (by omega)
          rw [hr] at this
          cases this
    obtain ⟨ρ', I', m, h1, h2, h3, h4, h5, h6⟩ := M.holds
    refine hQ act w ⟨ρ', I', h1, h2, h4.congr (fun id => ?_), h5.congr (fun t => ?_), fun id h => ?_⟩
    · show look id m1 = look id m
      rw [h3]
      by_cases ht : Touch (S 0) (S ops.size) id
      · rw [X.whole ht ops.size (Nat.le_refl _) all, hm1 id ht]
      · have na : ¬ Alter (S 0) (S ops.size) id := fun h => ht (h.elim (fun h => .inr (.inl h)) (fun h => .inr (.inr h)))
        rw [hm2 id na, memAt_skip (k := 0) ops.size (Nat.zero_le _) (fun j _ h2 _ h4 => na (X.alter h2 h4)), memAt]
    · rw [X.wholeT ops.size (Nat.le_refl _) all]
    · rcases h6 id h with h | ⟨j, h7, _, h8, h9⟩
      · exact .inl h
      · exact .inr ⟨Nat.le_trans (X.mono (Nat.zero_le j) (by omega)) h8, Nat.lt_of_lt_of_le h9 (X.mono (by omega) (Nat.le_refl _))⟩
  intro fuel
  induction fuel with
  | zero =>
    intro listed act w h0 M
    have hr : Region.ready .any ops listed = [] := by
      unfold Region.ready
      rw [List.filter_eq_nil_iff]
      intro i hi
      have hi := List.mem_range.1 hi
      have hs := M.size
      have hlt : i < listed.size := by omega
      have := falses_zero _ h0 listed[i] (by simp)
      simp [hlt, this]
    exact ⟨hr, done listed act w M hr⟩
  | succ fuel ih =>
    intro listed act w h0 M
    refine ⟨done listed act w M, fun i hi => ?_⟩
    unfold Region.ready at hi
    rw [List.mem_filter] at hi
    obtain ⟨hi1, hi2⟩ := hi
    have hin := List.mem_range.1 hi1
    have hsz := M.size
    have hil : i < listed.size := by omega
    obtain ⟨o, ho⟩ := opAt hin
    rw [ho] at hi2
    simp only [Option.map_some, Option.getD_some, Bool.and_eq_true, Bool.not_eq_true'] at hi2
    obtain ⟨hnl, hall⟩ := hi2
    have hni : listed.getD i false = false := by
      simp [hil] at hnl ⊢
      exact hnl
    have hpick : noPick o = true := List.all_eq_true.1 X.picks o (List.mem_of_getElem? (by rw [Array.getElem?_toList]; exact ho))
    -- what is ahead of i has run
    have before : ∀ k, X.ahead k i → listed.getD k false = true := by
      intro k hk
      obtain ⟨e, he, hb, h1⟩ := masks_bit ops.toList [] i k o (by simpa using ho) (by rw [List.length_nil, Nat.zero_add]; exact hk)
      have hon := (Array.all_eq_true'.1 hall) e (by simpa using he)
      rw [hb] at hon
      simp only [Bool.not_true, Bool.false_or] at hon
      rcases h1 with rfl | h1
      · exact hon
      · exact M.closed e.on hon k h1
    have o1 : ∀ j, listed.getD j false = true → ¬ X.ahead i j := fun j hj h => by
      have := M.closed j hj i h
      rw [hni] at this
      cases this
    have o2 : ∀ j, listed.getD j false = false → ¬ X.ahead j i := fun j hj h => by
      have := before j h
      rw [hj] at this
      cases this
    obtain ⟨ρ', I', m, q1, q2, q3, q4, q5, q6⟩ := M.holds
    obtain ⟨s', e1, e2, e3, e4, e5, e6, l⟩ := X.step i o ho
    -- what i touches is as it was when i ran in the text's order
    have agree : ∀ x, (x ∈ R i ∨ x ∈ W i ∨ ((S i).next ≤ x ∧ x < (S (i + 1)).next)) → look x m = look x (S i).mem := by
      intro x hx
      rw [q3, memAt_skip (k := i) ops.size (by omega) (fun j h1 h2 h3 => ?_), ← X.whole (b := fun _ => true) (X.touch hin hx) i (by omega) (fun _ _ => rfl)]
      · refine memAt_congr i (fun j h1 h2 => ?_)
        cases hj : listed.getD j false with
        | true => rfl
        | false => exact absurd h2 (X.off hin (by omega) (by omega) (fun h => by omega) (fun _ => o2 j hj) hx)
      · refine X.off hin h2 (fun e => ?_) (fun _ => o1 j h3) (fun h => by omega) hx
        subst e
        rw [hni] at h3
        cases h3
    have agreeT : ∀ t ∈ o.looksAt ops, (trOf ops (A 0) V (fun i => listed.getD i false) ops.size).get t = (A i).get t := by
      intro t ht
      rw [trOf_skip (k := i) X.dst_few ops.size (by omega) (fun j h1 h2 h3 h4 => ?_), ← X.wholeT (b := fun _ => true) i (by omega) (fun _ _ => rfl)]
      · refine trOf_congr X.dst_few i (fun j h1 h2 => ?_)
        cases hj : listed.getD j false with
        | true => rfl
        | false =>
          obtain ⟨y, hy⟩ := opAt (ops := ops) (i := j) (by omega)
          rw [hy] at h2
          exact absurd ht (X.offT ho hy (by omega) (fun h => by omega) (fun _ => o2 j hj) t h2).1
      · obtain ⟨y, hy⟩ := opAt h2
        rw [hy] at h4
        refine (X.offT ho hy (fun e => ?_) (fun _ => o1 j h3) (fun h => by omega) t h4).1 ht
        subst e
        rw [hni] at h3
        cases h3
    obtain ⟨_, frame⟩ := (Made.evGuarded (P := P) hm ops (A i) o).loc _ _ _ e1 (Nat.le_refl _) (X.inv i (by omega))
    obtain ⟨m', r1, r2, r3⟩ := frame m (fun id h => agree id (by
      rcases h with h | h | h
      · rw [e5]; exact .inl h
      · rw [e6]; exact .inr (.inl h)
      · rw [e4]; exact .inr (.inr h)))
    have e1' := e1
    rw [evGuarded_congr o hpick (fun t ht => (agreeT t ht).symm)] at r1 e1'
    have hpr : Pair { S i with base := (S i).next, rd := [], wr := [] } s' { S i with base := (S i).next, rd := [], wr := [], mem := m } { s' with mem := m' } := ⟨Nat.le_refl _, X.inv i (by omega), rfl, rfl, fun id h => agree id (by
      rcases h with h | h | h
      · rw [e5]; exact .inl h
      · rw [e6]; exact .inr (.inl h)
      · rw [e4]; exact .inr (.inr h))⟩
    have hfree : Free ρ' { S i with base := (S i).next, rd := [], wr := [], mem := m } { s' with mem := m' } := by
      intro id h1 h2
      simp only at h1 h2
      cases hr : ρ' id with
      | none => rfl
      | some ow =>
        exfalso
        rcases q6 id (by rw [hr]; simp) with h | ⟨j, h7, h8, h9, h10⟩
        · exact h (hf id (Nat.le_trans (X.mono (Nat.zero_le i) (by omega)) h1) (Nat.lt_of_lt_of_le h2 (by rw [← e4]; exact X.mono (by omega) (Nat.le_refl _))))
        · have hji : j ≠ i := fun e => by subst e; rw [hni] at h8; cases h8
          rcases Nat.lt_or_gt_of_ne hji with hlt | hlt
          · have := X.mono (i := j + 1) (j := i) (by omega) (by omega); omega
          · have := X.mono (i := i + 1) (j := j) (by omega) (by omega); omega
    unfold wpOp
    rw [ho]
    refine guarded_ok hc r1 e1' hpr q4 hfree q5 (fun x w' hpost => ?_)
    refine ih _ _ _ ?_ ?_
    · rw [Array.toList_setIfInBounds]
      have := falses_set listed.toList i (by
        rw [Array.getElem?_toList]
        simp [hil] at hni ⊢
        exact hni)
      omega
    · obtain ⟨ρ2, I2, p1, p2, p3, p4, p5⟩ := hpost
      have hset : ∀ j, (listed.setIfInBounds i true).getD j false = if j = i then true else listed.getD j false := fun j => getD_set hil
      refine ⟨by simp [hsz], fun j hj k hk => ?_, ρ2, I2, m', q1.trans p1, q2.trans p2, fun y => ?_, p3, ?_, fun id hid => ?_⟩
      · rw [hset] at hj ⊢
        split
        · rfl
        · split at hj
          · rename_i e; subst e; exact before k hk
          · exact M.closed j hj k hk
      · have hb : ∀ j, j ≠ i → (listed.setIfInBounds i true).getD j false = listed.getD j false := fun j hj => by rw [hset, if_neg hj]
        by_cases ha : y ∈ W i ∨ ((S i).next ≤ y ∧ y < (S (i + 1)).next)
        · have ht : Touch { S i with base := (S i).next, rd := [], wr := [] } s' y := by
            rcases ha with h | h
            · exact .inr (.inl (e6 ▸ h))
            · exact .inr (.inr (e4 ▸ h))
          rw [r2 y ht, ← e3, memAt_skip (k := i + 1) ops.size (by omega) (fun j h1 h2 h3 => ?_)]
          · simp only [memAt]
            rw [if_pos ⟨by rw [hset, if_pos rfl], ha⟩]
          · rw [hb j (by omega)] at h3
            exact X.off hin h2 (by omega) (fun _ => o1 j h3) (fun h => by omega) (ha.elim (fun h => .inr (.inl h)) (fun h => .inr (.inr h)))
        · have hna : ¬ Alter { S i with base := (S i).next, rd := [], wr := [] } s' y := fun h => ha (by
            rcases h with h | h
            · exact .inl (e6 ▸ h)
            · exact .inr (e4 ▸ h))
          rw [r3 y hna]
          show look y m = _
          rw [q3]
          refine memAt_congr ops.size (fun j h1 h2 => ?_)
          rw [hb j (fun e => by subst e; exact ha h2)]
      · have hbnt : ∃ a2, evPut nt (trOf ops (A 0) V (fun i => listed.getD i false) ops.size) o.dst (V i) = some a2 ∧ ∀ t, a2.get t = if o.dst = some t then V i else (trOf ops (A 0) V (fun i => listed.getD i false) ops.size).get t := by
          cases hd : o.dst with
          | none => exact ⟨_, rfl, fun t => by rw [if_neg (by simp)]⟩
          | some d =>
            have hdf := X.dst_few i d (by rw [ho]; exact hd)
            rw [hd] at e2
            simp only [evPut] at e2 ⊢
            cases hbl : Nat.ble (d + 1) nt with
            | false => rw [hbl] at e2; cases e2
            | true =>
              refine ⟨_, rfl, fun t => ?_⟩
              rw [get_put hdf]
              by_cases e : t = d
              · subst e; rw [if_pos rfl, if_pos rfl]
              · rw [if_neg e, if_neg (fun h => e (Option.some.inj h).symm)]
        obtain ⟨a2, hp2, hg2⟩ := hbnt
        refine ((q5.mono p1 p2).put hp2 p4).congr (fun t => ?_)
        rw [hg2]
        by_cases ht : o.dst = some t
        · rw [if_pos ht, trOf_skip (k := i + 1) X.dst_few ops.size (by omega) (fun j h1 h2 h3 h4 => ?_), trOf_get X.dst_few i, if_pos ⟨by rw [hset, if_pos rfl], by rw [ho]; exact ht⟩]
          obtain ⟨y, hy⟩ := opAt h2
          rw [hy] at h4
          rw [hset, if_neg (by omega)] at h3
          exact (X.offT ho hy (by omega) (fun _ => o1 j h3) (fun h => by omega) t h4).2 ht
        · rw [if_neg ht]
          refine trOf_congr X.dst_few ops.size (fun j h1 h2 => ?_)
          rw [hset, if_neg (fun e => by subst e; rw [ho] at h2; exact ht h2)]
      · rcases p5 id hid with h | h
        · rcases q6 id h with h | ⟨j, h7, h8, h9⟩
          · exact .inl h
          · exact .inr ⟨j, h7, by rw [hset]; split; rfl; exact h8, h9⟩
        · exact .inr ⟨i, hin, by rw [hset, if_pos rfl], h.1, by rw [e4]; exact h.2⟩

theorem region_true (hc : CallOK P call) (hm : ∀ f args, Made (call f args)) (hmix : P.follows .mixedOrders = true) {id : Nat} {ρ : Rho} {I : Im} {w : World} {act : Act} {a a' : Tr} {s s' s0 s0' : St} {Q : Exit → Act → World → Prop}
    (h : evRegion P call nt ops true a s = some (a', s')) (h0 : evRegion P call nt ops true a s0 = some (a', s0')) (hP : Pair s0 s0' s s') (hsr : SR ρ I s.mem w) (hf : Free ρ s s') (ha : AR ρ I nt a act)
    (hQ : ∀ act' w', CPost ρ I s s' nt a' act' w' → Q .normal act' w') : (Code.region id ops true).wp P Q act w := by
  obtain ⟨_, _, _, k1, k2⟩ := (Made.evRegion (P := P) hm nt ops true a).loc.pair h0 h hP.base hP.inv hP.left hP.agree
  obtain ⟨n1, n2⟩ := hP.next
  have hr := hP.right
  unfold evRegion at h0
  simp only [bind_some, must_some, pure_some, Prod.mk.injEq] at h0
  obtain ⟨⟨fs, a1⟩, s1, h1, _, s2, ⟨hck, hs2⟩, h2, h3⟩ := h0
  subst h3 hs2 h2
  simp only at hck hQ
  simp only [Bool.and_eq_true, regionOk] at hck
  obtain ⟨⟨⟨c1, c2⟩, c3⟩, c4⟩ := hck
  obtain ⟨A, S, V, R, W, eA, eS, eA', eS', efs, eI, eN, est⟩ := evDrawn_run hm ops.toList 0 rfl _ _ _ _ _ h1 hP.base hP.inv
  rw [Nat.zero_add, Array.length_toList] at eA' eS'
  rw [Array.length_toList] at efs
  have X : Setting P call nt ops A s.mem S V R W := ⟨fun i o ho => est i o (Nat.zero_le _) ho, fun i h => eI i (Nat.zero_le _) (by rw [Nat.zero_add, Array.length_toList]; exact h),
    fun i h => eN i (Nat.zero_le _) (by rw [Nat.zero_add, Array.length_toList]; exact h), by rw [eS]; exact hP.base, fun x h => by rw [eS]; rw [eS, eS'] at h; exact hP.agree x h, ha.few, c1, c2, c3, by rw [efs] at c4; exact c4⟩
  refine wp_region_any hmix (any_ok (ρ := ρ) (I := I) X hc hm (m1 := s'.mem) (fun id i1 i2 => hf id (by rw [n1]; rw [eS] at i1; exact i1) (by rw [n2]; rw [eS'] at i2; exact i2)) (fun x h => by rw [eS']; rw [eS, eS'] at h; exact k1 x h)
    (fun x h => k2 x (by rw [eS, eS'] at h; exact h)) (fun act' w' hcp => hQ act' w' ?_) _ _ _ _ ?_ ?_)
  · rw [eS', eA', ← hr] at hcp
    obtain ⟨ρ2, I2, p1, p2, p3, p4, p5⟩ := hcp
    exact ⟨ρ2, I2, p1, p2, p3, p4, fun id h => by rw [n1]; have := p5 id h; rw [eS] at this; exact this⟩
  · rw [Array.toList_replicate, falses_replicate]
  · have hfalse : ∀ j, (Array.replicate ops.size false).getD j false = false := by
      intro j
      rw [Array.getD_eq_getD_getElem?, Array.getElem?_replicate]
      split <;> rfl
    refine ⟨by simp, fun j hj => (by rw [hfalse] at hj; cases hj), ρ, I, s.mem, .refl _, .refl _, fun x => ?_, hsr.drew, ha.congr (fun t => ?_), fun id h => .inl h⟩
    · rw [memAt_skip (k := 0) ops.size (Nat.zero_le _) (fun j _ _ h => by rw [hfalse] at h; cases h), memAt]
    · rw [trOf_skip (k := 0) X.dst_few ops.size (Nat.zero_le _) (fun j _ _ h => by rw [hfalse] at h; cases h), trOf, eA]
end any
end Go.Proofs.Ytjgdcifbhmjinaa.Ev
