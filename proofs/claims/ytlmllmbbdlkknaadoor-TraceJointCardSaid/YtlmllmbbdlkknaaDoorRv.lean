/- A region whose order is open, by its values: each operation is shown once, in the order of the text; whatever order comes up, the values are the same. -/
import Derived.Test.YtlmllmbbdlkknaaDoorWInv
import Derived.Below
import Derived.WalkKit
import Derived.Test.YtlmllmbbdlkknaaDoorGoto
namespace Go.Proofs.YtlmllmbbdlkknaaDoor.Rv
open Go Go.Proofs.YtlmllmbbdlkknaaDoorW.PrintLast Go.Proofs.YtlmllmbbdlkknaaDoorW.PrintWords

/-- What the run of an operation leads to: a value and a world, without a panic. -/
def Leads (P : Program) (R : Value → World → Prop) : Result Next → Prop
  | .ok (.value v) w' => R v w'
  | .ok .skip w' => R undef w'
  | .ok (.enter f args) w' => Calls P f args w' fun e w'' => ∃ v, e = .returned v ∧ R v w''
  | _ => False

theorem Leads.upon {P : Program} {o : Oper} {a : Act} {K : Act → World → Prop} {Q : Exit → Act → World → Prop} {R : Value → World → Prop} {r : Result Next}
    (h : Leads P R r) (hK : ∀ v w', R v w' → K (a.put o.dst v) w') : o.upon P a K Q r := by
  unfold Leads at h
  split at h
  · exact hK _ _ h
  · exact hK _ _ h
  · refine Calls.mono h ?_
    rintro e w'' ⟨v, rfl, hR⟩
    exact hK _ _ hR
  · exact h.elim

/-- Of one operation: its value, wherever S holds; S is kept. -/
def OpOK (P : Program) (S : World → Prop) (ops : Array Oper) (o : Oper) (a : Act) (v : Value) : Prop :=
  (Region.wanted o (yielded ops a.tmps) = true → ∀ w, S w → Leads P (fun v' w' => v' = v ∧ S w') ((execOp a.eval o).run P w)) ∧
  (Region.wanted o (yielded ops a.tmps) = false → v = undef)

inductive SeqOK (P : Program) (S : World → Prop) (ops : Array Oper) : List Oper → Act → Act → Prop
  | nil {a : Act} : SeqOK P S ops [] a a
  | cons {o : Oper} {rest : List Oper} {a a' : Act} {v : Value} : OpOK P S ops o a v → SeqOK P S ops rest (a.put o.dst v) a' → SeqOK P S ops (o :: rest) a a'

/-- The slots of what is listed are filled. -/
def fill (b : Nat → Bool) : Nat → List (Option Tmp × Value) → Act → Act
  | _, [], a => a
  | n, e :: r, a => fill b (n + 1) r (if b n = true then a.put e.1 e.2 else a)

theorem fill_false : ∀ (l : List (Option Tmp × Value)) (n : Nat) (a : Act), fill (fun _ => false) n l a = a
  | [], _, _ => rfl
  | _ :: l, n, a => by simp [fill, fill_false l]
theorem fill_congr {b b' : Nat → Bool} : ∀ (l : List (Option Tmp × Value)) (n : Nat) (a : Act), (∀ j, n ≤ j → j < n + l.length → b j = b' j) → fill b n l a = fill b' n l a
  | [], _, _, _ => rfl
  | e :: l, n, a, h => by
    simp only [fill]
    rw [h n (Nat.le_refl _) (by simp)]
    exact fill_congr l (n + 1) _ (fun j h1 h2 => h j (by omega) (by simp at h2 ⊢; omega))
theorem fill_take {i : Nat} : ∀ (l : List (Option Tmp × Value)) (n : Nat) (a : Act), fill (fun j => decide (j < n + i)) n l a = fill (fun _ => true) n (l.take i) a := by
  induction i with
  | zero =>
    intro l n a
    rw [List.take_zero]
    rw [fill_congr (b' := fun _ => false) l n a (fun j h1 _ => decide_eq_false (by omega)), fill_false]
    rfl
  | succ i ih =>
    intro l n a
    cases l with
    | nil => rfl
    | cons e l =>
      simp only [fill, List.take_succ_cons]
      rw [if_pos (decide_eq_true (by omega)), if_pos trivial, ← ih]
      exact fill_congr _ _ _ (fun j _ _ => by congr 1; exact propext (by omega))
theorem put_put {a : Act} {s : Option Tmp} {t : Option Tmp} {u v : Value} (h : ∀ d, s = some d → t ≠ some d) : (a.put s u).put t v = (a.put t v).put s u := by
  cases s with
  | none => rfl
  | some d =>
    cases t with
    | none => rfl
    | some e =>
      have : d ≠ e := fun he => h d rfl (by rw [he])
      simp only [Act.put]
      rw [Array.setIfInBounds_comm _ _ this]
theorem fill_put {b : Nat → Bool} {t : Option Tmp} {v : Value} : ∀ (l : List (Option Tmp × Value)) (n : Nat) (a : Act), (∀ e ∈ l, ∀ d, e.1 = some d → t ≠ some d) → (fill b n l a).put t v = fill b n l (a.put t v)
  | [], _, _, _ => rfl
  | e :: l, n, a, h => by
    simp only [fill]
    rw [fill_put l (n + 1) _ (fun e he => h e (List.mem_cons_of_mem _ he))]
    split
    · rw [put_put (h e List.mem_cons_self)]
    · rfl
theorem fill_up {b : Nat → Bool} {i : Nat} {t : Option Tmp} {v : Value} : ∀ (l : List (Option Tmp × Value)) (n : Nat) (a : Act), n ≤ i → l[i - n]? = some (t, v) → b i = false →
    (∀ k e, l[k]? = some e → n + k ≠ i → ∀ d, e.1 = some d → t ≠ some d) → (fill b n l a).put t v = fill (up b i) n l a
  | [], _, _, _, h, _, _ => by simp at h
  | e :: l, n, a, hn, h, hb, hd => by
    simp only [fill]
    by_cases hi : n = i
    · subst hi
      simp at h
      subst h
      rw [if_neg (by rw [hb]; decide), if_pos (up_self b n)]
      rw [fill_put l (n + 1) a (fun e he => by
        obtain ⟨k, hk1, hk2⟩ := List.getElem_of_mem he
        exact hd (k + 1) e (by simp [List.getElem?_eq_getElem hk1, hk2]) (by omega))]
      exact fill_congr _ _ _ (fun j h1 _ => (up_ne (by omega)).symm)
    · rw [up_ne hi]
      refine fill_up l (n + 1) _ (by omega) ?_ hb (fun k e he hk => hd (k + 1) e (by simpa using he) (by omega))
      rw [← h, show i - n = (i - (n + 1)) + 1 by omega]
      simp
theorem fill_agree {b b' : Nat → Bool} {t : Tmp} : ∀ (l : List (Option Tmp × Value)) (n : Nat) (a a' : Act), a.tmps[t]? = a'.tmps[t]? → (∀ k e, l[k]? = some e → e.1 = some t → b (n + k) = b' (n + k)) →
    a.tmps.size = a'.tmps.size → (fill b n l a).tmps[t]? = (fill b' n l a').tmps[t]?
  | [], _, _, _, h, _, _ => h
  | e :: l, n, a, a', h, hb, hz => by
    simp only [fill]
    refine fill_agree l (n + 1) _ _ ?_ (fun k e he ht => by have := hb (k + 1) e (by simpa using he) ht; rw [show n + 1 + k = n + (k + 1) by omega]; exact this) ?_
    · obtain ⟨d, u⟩ := e
      cases d with
      | none => simp only [Act.put]; split <;> split <;> exact h
      | some d =>
        by_cases ht : d = t
        · subst ht
          have := hb 0 (some d, u) (by simp) rfl
          simp only [Nat.add_zero] at this
          rw [this]
          split
          · simp only [Act.put, Array.getElem?_setIfInBounds, hz, h]
          · exact h
        · have h1 : ∀ x : Act, (x.put (some d) u).tmps[t]? = x.tmps[t]? := fun x => by simp [Act.put, Array.getElem?_setIfInBounds_ne ht]
          split <;> split <;> simp only [h1, h]
    · have h1 : ∀ x : Act, (x.put e.1 e.2).tmps.size = x.tmps.size := fun x => by cases e.1 <;> simp [Act.put]
      split <;> split <;> simp only [h1, hz]

/-- From the steps to the list of values. -/
theorem SeqOK.vals {P : Program} {S : World → Prop} {ops : Array Oper} : ∀ {l : List Oper} {a a' : Act}, SeqOK P S ops l a a' →
    ∃ vs : List Value, vs.length = l.length ∧ a' = fill (fun _ => true) 0 (l.zipWith (fun o v => (o.dst, v)) vs) a ∧
      ∀ i o v, l[i]? = some o → vs[i]? = some v → OpOK P S ops o (fill (fun _ => true) 0 ((l.zipWith (fun o v => (o.dst, v)) vs).take i) a) v := by
  intro l a a' h
  have shift : ∀ (l : List (Option Tmp × Value)) (n m : Nat) (a : Act), fill (fun _ => true) n l a = fill (fun _ => true) m l a := by
    intro l
    induction l with
    | nil => intros; rfl
    | cons e l ih => intro n m a; simp only [fill]; exact ih _ _ _
  induction h with
  | nil => exact ⟨[], rfl, rfl, fun i o v h => by simp at h⟩
  | @cons o rest a a' v h1 h2 ih =>
    obtain ⟨vs, hl, ha, hv⟩ := ih
    refine ⟨v :: vs, by simp [hl], ?_, ?_⟩
    · rw [ha]
      simp only [List.zipWith_cons_cons, fill, if_true]
      exact shift _ _ _ _
    · intro i o' v' ho hv'
      cases i with
      | zero =>
        simp at ho hv'
        subst ho hv'
        simpa [fill] using h1
      | succ i =>
        have := hv i o' v' (by simpa using ho) (by simpa using hv')
        simp only [List.zipWith_cons_cons, List.take_succ_cons, fill, if_true]
        rw [shift _ _ 0]
        exact this

def bitsOf : List (List Nat × List Nat) → List Nat → List Nat
  | [], acc => acc
  | r :: rs, acc => bitsOf rs (acc ++ [upM acc acc.length r.1])

def pairsOk (ops : Array Oper) (B : List Nat) : Bool :=
  (List.range ops.size).all fun i => (List.range ops.size).all fun j => match ops[i]?, ops[j]? with
    | some x, some y => i == j || (match y.dst with
      | some d => (x.dst != some d) && (!((x.looksAt ops).contains d) || (decide (j < i) && (B.getD i 0).testBit j) || (decide (i < j) && (B.getD j 0).testBit i))
      | none => true)
    | _, _ => false

def okB (ops : Array Oper) : Bool :=
  let T := rtab .any ops
  let B := bitsOf T.2 []
  Region.noSelect ops && waitsOk T.2 B && baseOk T.2 (List.range ops.size) && pairsOk ops B &&
    (lof T.2.length (List.range ops.size) (fun _ => false) == (Array.replicate ops.size false).toList)

theorem noSelect_at {ops : Array Oper} (h : Region.noSelect ops = true) {i : Nat} {o : Oper} (ho : ops[i]? = some o) : ∀ cs b, o.op ≠ .select cs b := by
  intro cs b he
  have h1 : o ∈ ops := Array.mem_of_getElem? ho
  have h2 := (Array.all_eq_true'.1 h) o h1
  rw [he] at h2
  simp at h2

/-- THE REGION. -/
theorem region {P : Program} {ops : Array Oper} {Q : Exit → Act → World → Prop} {S : World → Prop} {id : Nat} {a a' : Act} {w : World} (hm : P.follows .mixedOrders = true) (hok : okB ops = true)
    (hS : S w.drew) (hseq : SeqOK P S ops ops.toList a a') (hQ : ∀ w', S w' → Q .normal a' w') : (Code.region id ops true).wp P Q a w := by
  simp only [okB, Bool.and_eq_true, beq_iff_eq] at hok
  obtain ⟨⟨⟨⟨hns, hw⟩, hk⟩, hp⟩, hl⟩ := hok
  obtain ⟨vs, hvl, ha', hv⟩ := hseq.vals
  generalize hE : ops.toList.zipWith (fun o v => (o.dst, v)) vs = E at ha' hv
  have hEl : E.length = ops.size := by rw [← hE]; simp [hvl]
  have hEat : ∀ (i : Nat) (e : Option Tmp × Value), E[i]? = some e → ∃ o, ops[i]? = some o ∧ o.dst = e.1 ∧ vs[i]? = some e.2 := by
    intro i e he
    rw [← hE, List.getElem?_zipWith] at he
    rw [Array.getElem?_toList] at he
    cases ho : ops[i]? with
    | none => rw [ho] at he; simp at he
    | some o =>
      cases hvi : vs[i]? with
      | none => rw [ho, hvi] at he; simp at he
      | some v =>
        rw [ho, hvi] at he
        simp at he
        subst he
        exact ⟨o, rfl, rfl, rfl⟩
  refine wp_region_last (S := fun _ => True) (ds := []) hm ?_
  refine inv_ (B := bitsOf (rtab .any ops).2 []) (List.range ops.size) (fun b x w' => x = fill b 0 E a ∧ S w') rfl hw hk ?_ ⟨(fill_false _ _ _).symm, hS⟩ ?_ ?_
  · rw [hl]; simp
  · intro i hi b x w' ⟨hx, hSw⟩ hbi hwt hwf
    have hin : i < ops.size := by simpa using hi
    have ho : ops[i]? = some ops[i] := by simp [hin]
    refine ⟨ops[i], ho, fun K hK => ?_⟩
    have hEi : i < E.length := by omega
    obtain ⟨o', ho', hd, hvi⟩ := hEat i E[i] (List.getElem?_eq_getElem hEi)
    rw [ho] at ho'
    obtain rfl := Option.some.inj ho'
    have hop := hv i ops[i] E[i].2 (by rw [Array.getElem?_toList]; exact ho) hvi
    rw [← fill_take (i := i) E 0 a] at hop
    simp only [Nat.zero_add] at hop
    have hpi := List.all_eq_true.1 hp i (List.mem_range.2 hin)
    have hlook : ∀ t ∈ ops[i].looksAt ops, (fill b 0 E a).tmps[t]? = (fill (fun j => decide (j < i)) 0 E a).tmps[t]? := by
      intro t ht
      refine fill_agree E 0 a a rfl (fun k e he het => ?_) rfl
      simp only [Nat.zero_add]
      obtain ⟨y, hy, hyd, _⟩ := hEat k e he
      have hkn : k < ops.size := by
        have := (List.getElem?_eq_some_iff.1 he).1
        omega
      have hpk := List.all_eq_true.1 hpi k (List.mem_range.2 hkn)
      rw [ho, hy] at hpk
      simp only [Bool.or_eq_true, beq_iff_eq] at hpk
      rcases hpk with hpk | hpk
      · subst hpk
        rw [hbi]; simp
      · rw [hyd, het] at hpk
        simp only [Bool.and_eq_true, Bool.or_eq_true, decide_eq_true_eq] at hpk
        obtain ⟨_, (h1 | h1) | h1⟩ := hpk
        · exact absurd ht (by simpa using h1)
        · rw [hwt k (by rw [Bool.and_eq_true]; exact ⟨by simp [hkn], h1.2⟩), decide_eq_true h1.1]
        · rw [hwf k (by rw [Bool.and_eq_true]; exact ⟨by simp [hkn], h1.2⟩), decide_eq_false (by omega)]
    have hyl : Region.wanted ops[i] (yielded ops x.tmps) = Region.wanted ops[i] (yielded ops (fill (fun j => decide (j < i)) 0 E a).tmps) := by
      subst hx
      unfold Region.wanted
      cases hg : ops[i].guard with
      | none => rfl
      | some g =>
        obtain ⟨g, want⟩ := g
        simp only
        congr 1
        unfold yielded
        cases hgd : (ops[g]?).bind (·.dst) with
        | none => rfl
        | some t =>
          simp only [Option.bind_some]
          rw [hlook t (by unfold Oper.looksAt; rw [hg]; simp [hgd])]
    have hev : execOp x.eval ops[i] = execOp (fill (fun j => decide (j < i)) 0 E a).eval ops[i] := by
      subst hx
      refine execOp_congr _ (noSelect_at hns ho) (fun y hy => ?_)
      cases y with
      | tmp t =>
        have := hlook t (by
          unfold Oper.looksAt
          refine List.mem_append_left _ (List.mem_filterMap.2 ⟨.tmp t, by simpa using hy, rfl⟩))
        simp only [Act.eval, Array.getD_eq_getD_getElem?, this]
      | const v => rfl
      | global g => rfl
      | func f => rfl
    have hput : x.put ops[i].dst E[i].2 = fill (up b i) 0 E a := by
      subst hx
      rw [hd]
      refine fill_up E 0 a (Nat.zero_le _) (by simp [List.getElem?_eq_getElem hEi]) hbi (fun k e he hne d hed => ?_)
      simp only [Nat.zero_add] at hne
      obtain ⟨y, hy, hyd, _⟩ := hEat k e he
      have hkn : k < ops.size := by
        have := (List.getElem?_eq_some_iff.1 he).1
        omega
      have hpk := List.all_eq_true.1 hpi k (List.mem_range.2 hkn)
      rw [ho, hy] at hpk
      simp only [Bool.or_eq_true, beq_iff_eq] at hpk
      rcases hpk with hpk | hpk
      · exact absurd hpk.symm hne
      · rw [hyd, hed] at hpk
        simp only [Bool.and_eq_true] at hpk
        rw [← hd]
        simpa using hpk.1
    cases hwn : Region.wanted ops[i] (yielded ops x.tmps) with
    | true =>
      rw [if_pos rfl]
      unfold Oper.wp
      rw [hev]
      refine (hop.1 (hyl ▸ hwn) w' hSw).upon ?_
      rintro v w'' ⟨rfl, hS'⟩
      exact hK.out _ _ ⟨hput, hS'⟩
    | false =>
      rw [if_neg (by decide)]
      have := hop.2 (hyl ▸ hwn)
      rw [← this]
      exact hK.out _ _ ⟨hput, hSw⟩
  · intro b x w' hb ⟨hx, hSw⟩
    have : fill b 0 E a = a' := by
      rw [ha']
      exact fill_congr _ _ _ (fun j _ hj => by
        rw [hb j (by simp; omega)])
    rw [hx, this]
    exact hQ w' hSw
/-! ### Steps: one operation each -/
theorem sv {P : Program} {S : World → Prop} {ops : Array Oper} {o : Oper} {rest : List Oper} {a a1 a' : Act} {v : Value} (h : SeqOK P S ops rest a1 a')
    (hw : Region.wanted o (yielded ops a.tmps) = true := by rfl)
    (hy : ∀ w, S w → (execOp a.eval o).run P w = .ok (.value v) w := by (intro w' hSw; (try dsimp only at hSw); go_simp; first | done | with_reducible rfl))
    (ha : a.put o.dst v = a1 := by exact Goto.ap) : SeqOK P S ops (o :: rest) a a' :=
  SeqOK.cons ⟨fun _ w hS => by rw [hy w hS]; exact ⟨rfl, hS⟩, fun h' => by rw [hw] at h'; cases h'⟩ (ha ▸ h)
theorem sn {P : Program} {S : World → Prop} {ops : Array Oper} {o : Oper} {rest : List Oper} {a a1 a' : Act} (h : SeqOK P S ops rest a1 a')
    (hw : Region.wanted o (yielded ops a.tmps) = false := by rfl)
    (ha : a.put o.dst undef = a1 := by exact Goto.ap) : SeqOK P S ops (o :: rest) a a' :=
  SeqOK.cons (v := undef) ⟨fun h' => (by rw [hw] at h'; cases h'), fun _ => rfl⟩ (ha ▸ h)
theorem sc {P : Program} {S : World → Prop} {ops : Array Oper} {o : Oper} {rest : List Oper} {a a1 a' : Act} {f : FuncId} {args : Array Value} {v : Value}
    (hc : ∀ w, S w → Calls P f args w fun e w' => e = .returned v ∧ S w') (h : SeqOK P S ops rest a1 a')
    (hw : Region.wanted o (yielded ops a.tmps) = true := by rfl)
    (he : ∀ w, S w → (execOp a.eval o).run P w = .ok (.enter f args) w := by (intro w' hSw; (try dsimp only at hSw); go_simp; first | done | with_reducible rfl))
    (ha : a.put o.dst v = a1 := by exact Goto.ap) : SeqOK P S ops (o :: rest) a a' :=
  SeqOK.cons ⟨fun _ w hS => by
    rw [he w hS]
    exact (hc w hS).mono (fun e w' ⟨h1, h2⟩ => ⟨v, h1, rfl, h2⟩), fun h' => by rw [hw] at h'; cases h'⟩ (ha ▸ h)
end Go.Proofs.YtlmllmbbdlkknaaDoor.Rv
