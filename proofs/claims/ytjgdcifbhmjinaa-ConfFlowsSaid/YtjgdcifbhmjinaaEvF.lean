/- A function as the evaluator does it is what the model does. -/
import Derived.Test.YtjgdcifbhmjinaaEvE
import Derived.Below
namespace Go.Proofs.Ytjgdcifbhmjinaa.Ev
open Go Go.RowKit

section
variable {P : Program} {call : CallF} {lf nt : Nat} {ρ : Rho} {I : Im} {s s' : St} {w : World}

theorem putArgs_ok (few : nt ≤ 65000) : ∀ (l : List Val) (n : Nat) (a a' : Tr), putArgs nt n l a = some a' → n ≤ nt → n + l.length ≤ nt ∧ ∀ t, a'.get t = if n ≤ t ∧ t < n + l.length then l.getD (t - n) U else a.get t
  | [], n, a, a', h, hn => by
    simp only [putArgs, Option.some.injEq] at h
    subst h
    refine ⟨by simpa using hn, fun t => by rw [if_neg (by simp)]⟩
  | v :: l, n, a, a', h, hn => by
    simp only [putArgs, evPut] at h
    cases hb : Nat.ble (n + 1) nt with
    | false => rw [hb] at h; cases h
    | true =>
      rw [hb] at h
      have hlt := Nat.le_of_ble_eq_true hb
      obtain ⟨h1, h2⟩ := putArgs_ok few l (n + 1) _ _ h hlt
      refine ⟨by rw [List.length_cons]; omega, fun t => ?_⟩
      rw [h2 t, List.length_cons, get_put (by omega)]
      by_cases e : t = n
      · subst e
        rw [if_neg (by omega), if_pos rfl, if_pos (by omega)]
        simp
      · by_cases h3 : n + 1 ≤ t ∧ t < n + 1 + l.length
        · rw [if_pos h3, if_pos (by omega), show t - n = (t - (n + 1)) + 1 by omega]
          simp
        · rw [if_neg h3, if_neg e, if_neg (by omega)]

theorem args_ok {fn : Func} {args : List Val} {xs : List Value} {a : Tr} (few : fn.ntmps ≤ 65000) (h : putArgs fn.ntmps 0 args .leaf = some a) (hv : VRs ρ I args xs) :
    AR ρ I fn.ntmps a { tmps := xs.toArray ++ Array.replicate (fn.ntmps - xs.toArray.size) undef, defers := [] } := by
  obtain ⟨h1, h2⟩ := putArgs_ok few args 0 .leaf a h (Nat.zero_le _)
  have hl := hv.length
  refine ⟨by simp; omega, few, fun t => ?_, rfl⟩
  rw [h2 t, Array.getD_eq_getD_getElem?]
  by_cases ht : t < args.length
  · rw [if_pos (by omega), Nat.sub_zero]
    have hu : args[t]? = some args[t] := by simp [ht]
    obtain ⟨y, hy, hr⟩ := hv.get hu
    have e1 : args.getD t U = args[t] := by simp [List.getD_eq_getElem?_getD, ht]
    have e2 : (xs.toArray ++ Array.replicate (fn.ntmps - xs.toArray.size) undef)[t]? = some y := by
      rw [Array.getElem?_append_left (by simp; omega)]
      simpa using hy
    rw [e1, e2]
    exact hr
  · rw [if_neg (by omega), get_leaf]
    have e2 : ((xs.toArray ++ Array.replicate (fn.ntmps - xs.toArray.size) undef)[t]?).getD undef = undef := by
      rw [Array.getElem?_append_right (by simp; omega), Array.getElem?_replicate]
      split <;> rfl
    rw [e2]
    exact .sc

theorem load_ptr {t : TypeId} {a v : Val} {x : Value} (h : evLoad P t a s = some (v, s')) (ha : VR ρ I a x) : ∃ ad, x = .pointer (some ad) := by
  unfold evLoad at h
  simp only [bind_some, ofOpt_some] at h
  obtain ⟨r, s1, ⟨hr, rfl⟩, h⟩ := h
  cases ha with
  | ref h1 h2 => exact ⟨_, rfl⟩
  | fpt h1 h2 => exact ⟨_, rfl⟩
  | _ => simp only [fail_some] at h

/-- A result's value. -/
def resOf (tmps : Array Value) : ResultVar → Sem Value
  | .tmp t => pure (tmps.getD t undef)
  | .cell a t => do loadVar t (← asAddr (tmps.getD a undef))

theorem results_ok {a : Tr} {act : Act} (ha : AR ρ I nt a act) : ∀ (l : List ResultVar) (s s' : St) (vs : List Val), evResults P a l s = some (vs, s') → SR ρ I s.mem w →
    ∃ xs, (l.mapM (resOf act.tmps)).run P w = .ok xs w ∧ VRs ρ I vs xs ∧ s'.mem = s.mem ∧ s'.next = s.next
  | [], s, s', vs, h, hsr => by
    simp only [evResults, pure_some, Prod.mk.injEq] at h
    obtain ⟨rfl, rfl⟩ := h
    exact ⟨[], rfl, .nil, rfl, rfl⟩
  | .tmp t :: l, s, s', vs, h, hsr => by
    simp only [evResults, bind_some, pure_some, Prod.mk.injEq] at h
    obtain ⟨r, s1, h1, rfl, rfl⟩ := h
    obtain ⟨xs, e1, e2, e3, e4⟩ := results_ok ha l s s' r h1 hsr
    refine ⟨act.tmps.getD t undef :: xs, ?_, .cons (ha.val t) e2, e3, e4⟩
    simp only [List.mapM_cons, resOf, Sem.run_bind, Sem.run_pure, Result.andThen, e1]
  | .cell x t :: l, s, s', vs, h, hsr => by
    simp only [evResults, bind_some, pure_some, Prod.mk.injEq] at h
    obtain ⟨v, s1, h1, r, s2, h2, rfl, rfl⟩ := h
    obtain ⟨ad, had⟩ := load_ptr h1 (ha.val x)
    obtain ⟨y, hy, hvr, hm, hn⟩ := load_ok (P := P) h1 hsr (ha.val x)
    obtain ⟨xs, e1, e2, e3, e4⟩ := results_ok ha l s1 s' r h2 (hm ▸ hsr)
    refine ⟨y :: xs, ?_, .cons hvr e2, e3.trans hm, e4.trans hn⟩
    rw [had] at hy
    have hy : (loadVar t ad).run P w = .ok y w := by simpa [Instr.loadAt, Instr.sureAddr] using hy
    simp only [List.mapM_cons, resOf, had, asAddr, Sem.run_bind, Sem.run_pure, Result.andThen, hy, e1]

/-- One result alone, or all of them. -/
def pack (xs : List Value) : Value := match xs with
  | [x] => x
  | xs => .tuple xs.toArray
theorem resOf_eq (fn : Func) (tmps : Array Value) {xs : List Value} (h : (fn.results.toList.mapM (resOf tmps)).run P w = .ok xs w) : (results fn tmps).run P w = .ok (pack xs) w := by
  have e : results fn tmps = (do
      let vs ← fn.results.mapM (resOf tmps)
      pure (if h : vs.size = 1 then vs[0] else .tuple vs)) := by
    unfold results
    congr 1
  rw [e, Array.mapM_eq_mapM_toList, Sem.run_bind, Sem.run_map, h]
  simp only [Result.andThen, Sem.run_pure]
  congr 1
  cases xs with
  | nil => rfl
  | cons x xs =>
    cases xs with
    | nil => rfl
    | cons y ys => simp [pack]

theorem body_ok (hc : CallOK P call) (hm : ∀ f args, Made (call f args)) (hmix : P.follows .mixedOrders = true) {f : FuncId} {fn : Func} {c : Code} (hf : P.funcs[f]? = some fn) (hb : fn.body = some c) {args : List Val} {v : Val} {s0 s0' : St}
    (h0 : evBody P call lf fn c args s0 = some (v, s0')) (h : evBody P call lf fn c args s = some (v, s')) (hP : Pair s0 s0' s s') {xs : List Value} (hsr : SR ρ I s.mem w) (hfr : Free ρ s s') (hv : VRs ρ I args xs) :
    Calls P f xs.toArray w fun e w' => ∃ x, e = .returned x ∧ Post ρ I s s' v x w' := by
  unfold evBody at h h0
  simp only [cTab_eq] at h h0
  have mres : ∀ a : Tr, Made (do
      let vs ← evResults P a fn.results.toList
      match vs with
      | [v] => pure v
      | vs => pure (.tup vs) : M Val) := by
    intro a
    refine .bind (Made.evResults _ _) (fun _ => ?_)
    split <;> exact .pure _
  have mrest : ∀ r : Ex × Tr, Made (match r with
      | (.normal, a) | (.ret, a) => do
        let vs ← evResults P a fn.results.toList
        match vs with
        | [v] => pure v
        | vs => pure (.tup vs)
      | _ => fail : M Val) := by
    intro r
    split
    · exact mres _
    · exact mres _
    · exact .fail
  obtain ⟨_, s01, s1, h1, h2, h3, h4, P1, P2, -, -, -⟩ := seq_ok (Made.must _) (fun _ => Made.bind (.ofOpt _) (fun _ => Made.bind (Made.evCode hm lf _ c _ _) mrest)) h0 h hP hfr
  rw [must_some] at h1 h3
  obtain ⟨few, hs1⟩ := h3
  obtain ⟨_, hs01⟩ := h1
  simp only at hs1 hs01
  subst hs1 hs01
  obtain ⟨a, s02, s2, h5, h6, h7, h8, P3, P4, -, -, -⟩ := seq_ok (Made.ofOpt _) (fun _ => Made.bind (Made.evCode hm lf _ c _ _) mrest) h2 h4 P2 hfr
  rw [ofOpt_some] at h5 h7
  obtain ⟨hput, hs2⟩ := h7
  obtain ⟨_, hs02⟩ := h5
  simp only at hs2 hs02 hput
  subst hs2 hs02
  have few := Nat.le_of_ble_eq_true few
  have har := args_ok few hput hv
  obtain ⟨r, s03, s3, h9, h10, h11, h12, P5, P6, m1, m2, hfr1⟩ := seq_ok (Made.evCode hm lf _ c none a) mrest h6 h8 P4 hfr
  obtain ⟨ex, a1⟩ := r
  refine calls_of_wp hf hb (evCode_ok (lf := lf) (nt := fn.ntmps) hc hm hmix c none c rfl a s2 ex a1 s3 h11 s02 s03 h9 P5 ρ I w _ hsr hfr1 har _ (fun act1 w1 hcp => ?_))
  obtain ⟨ρ1, I1, p1, p2, p3, p4, p5⟩ := hcp
  have key : ∀ h : (do
      let vs ← evResults P a1 fn.results.toList
      match vs with
      | [v] => pure v
      | vs => pure (.tup vs) : M Val) s3 = some (v, s'), act1.defers = [] ∧ ∃ x, (results fn act1.tmps).run P w1 = .ok x w1 ∧ (∃ y, Ending.returned x = .returned y ∧ Post ρ I s2 s' v y w1) := by
    intro h
    rw [bind_some] at h
    obtain ⟨vs, s4, hr, hlast⟩ := h
    obtain ⟨xs1, e1, e2, e3, e4⟩ := results_ok p4 fn.results.toList s3 s4 vs hr p3
    have hrun := resOf_eq fn act1.tmps e1
    refine ⟨p4.still, _, hrun, _, rfl, ?_⟩
    have fin : s' = s4 ∧ VR ρ1 I1 v (pack xs1) := by
      cases e2 with
      | nil =>
        simp only [pure_some, Prod.mk.injEq] at hlast
        obtain ⟨rfl, rfl⟩ := hlast
        exact ⟨rfl, .tup .nil⟩
      | cons g1 g2 =>
        cases g2 with
        | nil =>
          simp only [pure_some, Prod.mk.injEq] at hlast
          obtain ⟨rfl, rfl⟩ := hlast
          exact ⟨rfl, g1⟩
        | cons g2 g3 =>
          simp only [pure_some, Prod.mk.injEq] at hlast
          obtain ⟨rfl, rfl⟩ := hlast
          exact ⟨rfl, .tup (.cons g1 (.cons g2 g3))⟩
    obtain ⟨rfl, hvr⟩ := fin
    refine ⟨ρ1, I1, p1, p2, e3 ▸ p3, hvr, fun id hid => ?_⟩
    rcases p5 id hid with e | e
    · exact .inl e
    · exact .inr ⟨e.1, by omega⟩
  cases ex with
  | normal => exact key h12
  | ret => exact key h12
  | exit id => simp only [fail_some] at h12
  | goto l => simp only [fail_some] at h12

/-- The blocks of a range are let go. -/
def Rho.shut (ρ : Rho) (lo hi : Nat) : Rho := fun id => if lo ≤ id ∧ id < hi then (ρ id).map (fun _ => .dead) else ρ id
theorem shut_val {lo hi id : Nat} {ow : Own} (h : (ρ.shut lo hi) id = some ow) : (¬ (lo ≤ id ∧ id < hi) ∧ ρ id = some ow) ∨ ((lo ≤ id ∧ id < hi) ∧ ow = .dead) := by
  unfold Rho.shut at h
  split at h
  · rename_i h1
    simp only [Option.map_eq_some_iff] at h
    obtain ⟨_, _, rfl⟩ := h
    exact .inr ⟨h1, rfl⟩
  · rename_i h1
    exact .inl ⟨h1, h⟩
theorem shut_le (lo hi : Nat) : Le ρ (ρ.shut lo hi) := fun id ow h => by
  unfold Rho.shut
  split
  · rw [h]; exact .inr rfl
  · exact .inl h
theorem SR.shed {m : List (Nat × List Val)} (h : SR ρ I m w) (lo hi : Nat) : SR (ρ.shut lo hi) I (shed lo hi m) w := by
  have live : ∀ {id b o n}, (ρ.shut lo hi) id = some (.live b o n) → ¬ (lo ≤ id ∧ id < hi) ∧ ρ id = some (.live b o n) := by
    intro id b o n h
    rcases shut_val h with h | ⟨_, h⟩
    · exact h
    · cases h
  refine ⟨fun id b o n h' => ?_, fun id c h' => ?_, fun id id' b o n o' n' h1 h2 => h.inj _ _ _ _ _ _ _ (live h1).2 (live h2).2, h.im, fun id b o n h' => h.aside _ _ _ _ (live h').2, h.env⟩
  · obtain ⟨h1, h2⟩ := live h'
    obtain ⟨c1, hc1, cells1, elem1, lo1, hi1, hw1, hn1, hfr1, hol1, hv1⟩ := h.live _ _ _ _ h2
    exact ⟨c1, by rw [look_shed, if_neg h1]; exact hc1, cells1, elem1, lo1, hi1, hw1, hn1, hfr1, hol1, hv1.mono (shut_le lo hi) (.refl _)⟩
  · rw [look_shed] at h'
    split at h'
    · cases h'
    · rename_i hn
      obtain ⟨b, o, n, h⟩ := h.mem _ _ h'
      exact ⟨b, o, n, by unfold Rho.shut; rw [if_neg hn]; exact h⟩

theorem tidy_pair {p : M Val} (hp : Made p) {s0 s0' : St} {v : Val} (h0 : tidy p s0 = some (v, s0')) (h : tidy p s = some (v, s')) (hP : Pair s0 s0' s s') :
    ∃ t0 t, p { s0 with base := s0.next, rd := [], wr := [] } = some (v, t0) ∧ p { s with base := s.next, rd := [], wr := [] } = some (v, t) ∧
      Pair { s0 with base := s0.next, rd := [], wr := [] } t0 { s with base := s.next, rd := [], wr := [] } t ∧ s'.next = t.next ∧ (s'.mem = t.mem ∨ s'.mem = shed s.next t.next t.mem) := by
  have hn := hP.next.1
  have ag := hP.agree
  unfold tidy at h h0
  cases hq0 : p { s0 with base := s0.next, rd := [], wr := [] } with
  | none => rw [hq0] at h0; cases h0
  | some r0 =>
    obtain ⟨v0, t0⟩ := r0
    cases hq : p { s with base := s.next, rd := [], wr := [] } with
    | none => rw [hq] at h; cases h
    | some r =>
      obtain ⟨v1, t⟩ := r
      rw [hq0] at h0
      rw [hq] at h
      simp only at h h0
      obtain ⟨l, _⟩ := hp.loc _ _ _ hq0 (Nat.le_refl _) hP.inv
      have hout : s0'.next = t0.next ∧ (∀ x ∈ t0.rd, x < s0.base → x ∈ s0'.rd) ∧ (∀ x ∈ t0.wr, x < s0.base → x ∈ s0'.wr) ∧ v0 = v := by
        split at h0
        · simp only [Option.some.injEq, Prod.mk.injEq] at h0
          obtain ⟨rfl, rfl⟩ := h0
          exact ⟨rfl, fun x h1 h2 => mem_joinN.2 (.inr ⟨h1, h2⟩), fun x h1 h2 => mem_joinN.2 (.inr ⟨h1, h2⟩), rfl⟩
        · simp only [Option.some.injEq, Prod.mk.injEq] at h0
          obtain ⟨rfl, rfl⟩ := h0
          exact ⟨rfl, fun x h1 h2 => mem_joinN.2 (.inr ⟨h1, h2⟩), fun x h1 h2 => mem_joinN.2 (.inr ⟨h1, h2⟩), rfl⟩
      obtain ⟨o1, o2, o3, rfl⟩ := hout
      have ln := l.next
      simp only at ln
      have hb := hP.base
      have hleft : ({ s with base := s.next, rd := [], wr := [] } : St) = { ({ s0 with base := s0.next, rd := [], wr := [] } : St) with mem := s.mem } := by
        simp only [hn]
      obtain ⟨_, PP, _⟩ := hp.loc.pair hq0 hq (Nat.le_refl _) hP.inv hleft (fun id ht => ag id (by
        rcases ht with ht | ht | ⟨h1, h2⟩
        · rcases Nat.lt_or_ge id s0.base with h1 | h1
          · exact .inl (o2 id ht h1)
          · have := (l.rdOld id ht).resolve_left (by simp)
            simp only at this
            exact .inr (.inr ⟨h1, by omega⟩)
        · rcases Nat.lt_or_ge id s0.base with h1 | h1
          · exact .inr (.inl (o3 id ht h1))
          · have := (l.wrOld id ht).resolve_left (by simp)
            simp only at this
            exact .inr (.inr ⟨h1, by omega⟩)
        · simp only at h1
          exact .inr (.inr ⟨by omega, by omega⟩)))
      split at h
      · simp only [Option.some.injEq, Prod.mk.injEq] at h
        obtain ⟨rfl, rfl⟩ := h
        exact ⟨t0, t, rfl, rfl, PP, rfl, .inr rfl⟩
      · simp only [Option.some.injEq, Prod.mk.injEq] at h
        obtain ⟨rfl, rfl⟩ := h
        exact ⟨t0, t, rfl, rfl, PP, rfl, .inl rfl⟩

/-- What is asked of functions whose contracts are known. -/
def ExtOK (P : Program) (X : Ext) : Prop :=
  ∀ f args v, X f args = some v → (∃ fn, P.funcs[f]? = some fn ∧ fn.body.isSome = true ∧ (fn.name == "runtime.NumGoroutine") = false) ∧
    ∀ (ρ : Rho) (I : Im) (w : World) (xs : List Value), VRs ρ I args xs → Calls P f xs.toArray w fun e w' => ∃ x, e = .returned x ∧ VR ρ I v x ∧ Below w.heap.size w w'

theorem SR.below {m : List (Nat × List Val)} {w' : World} (h : SR ρ I m w) (hb : Below w.heap.size w w') : SR ρ I m w' := by
  have up : ∀ b x, w.heap[b]? = some x → w'.heap[b]? = some x := fun b x hx => by
    rw [hb.block b (Array.getElem?_eq_some_iff.1 hx).1]
    exact hx
  refine ⟨fun id b o n e => ?_, h.mem, h.inj, fun b x e => up b x (h.im b x e), h.aside, ⟨hb.os.trans h.env.os, hb.tape.trans h.env.tape, hb.output.trans h.env.output, Nat.le_trans h.env.size hb.size⟩⟩
  obtain ⟨cs, h1, cells, elem, lo, hi, h2, h3⟩ := h.live id b o n e
  exact ⟨cs, h1, cells, elem, lo, hi, up _ _ h2, h3⟩

theorem evFn_ok {X : Ext} {F : FuncId → Option Func} (hF : ∀ f fn, F f = some fn → P.funcs[f]? = some fn ∧ (fn.name == "runtime.NumGoroutine") = false) (hX : ExtOK P X) (hmix : P.follows .mixedOrders = true) : ∀ n : Nat, CallOK P (evFn P X F lf n)
  | 0 => by
    intro f args s0 v s0' h0
    simp only [evFn, fail_some] at h0
  | n + 1 => by
    intro f args s0 v s0' h0 s s' h hP
    unfold evFn at h h0
    cases hx : X f args with
    | some u =>
      rw [hx] at h
      simp only [pure_some, Prod.mk.injEq] at h
      obtain ⟨rfl, rfl⟩ := h
      obtain ⟨x1, x2⟩ := hX f args v hx
      refine ⟨x1, fun ρ I w xs hsr hfr hv => Calls.mono (x2 ρ I w xs hv) ?_⟩
      rintro e w' ⟨x, rfl, hvr, hb⟩
      exact ⟨x, rfl, ρ, I, .refl _, .refl _, hsr.below hb, hvr, fun _ h => .inl h⟩
    | none =>
    rw [hx] at h h0
    simp only at h h0
    cases hf : F f with
    | none => rw [hf] at h; simp only [fail_some] at h
    | some fn =>
      rw [hf] at h h0
      simp only at h h0
      obtain ⟨hf1, hf2⟩ := hF f fn hf
      cases hb : fn.body with
      | none => rw [hb] at h; simp only [fail_some] at h
      | some c =>
        rw [hb] at h h0
        simp only at h h0
        refine ⟨⟨fn, hf1, by rw [hb]; rfl, hf2⟩, fun ρ I w xs hsr hfr hv => ?_⟩
        have hmade : ∀ f args, Made (evFn P X F lf n f args) := fun f args => Made.evFn X F lf n f args
        obtain ⟨t0, t, e0, e1, PP, en, em⟩ := tidy_pair (Made.evBody hmade lf fn c args) h0 h hP
        refine Calls.mono (body_ok (evFn_ok hF hX hmix n) hmade hmix hf1 hb e0 e1 PP (ρ := ρ) (I := I) (w := w) hsr (fun id i1 i2 => hfr id i1 (by rw [en]; exact i2)) hv) ?_
        rintro e w' ⟨x, rfl, hp⟩
        refine ⟨x, rfl, ?_⟩
        obtain ⟨ρ1, I1, p1, p2, p3, p4, p5⟩ := hp
        rcases em with em | em
        · exact ⟨ρ1, I1, p1, p2, em ▸ p3, p4, fun id hid => by rw [en]; exact p5 id hid⟩
        · refine ⟨ρ1.shut s.next t.next, I1, p1.trans (shut_le _ _), p2, em ▸ p3.shed s.next t.next, p4.mono (shut_le _ _) (.refl _), fun id hid => ?_⟩
          rw [en]
          refine p5 id (fun h => hid ?_)
          unfold Rho.shut
          split
          · rw [h]; rfl
          · exact h

/-- WHAT THE EVALUATOR TELLS OF A FUNCTION IS SO: behind the call all blocks that were there are as they were, and what is handed back is what the evaluator told. -/
theorem evaluated {X : Ext} {F : FuncId → Option Func} (hF : ∀ f fn, F f = some fn → P.funcs[f]? = some fn ∧ (fn.name == "runtime.NumGoroutine") = false) (hX : ExtOK P X) (hmix : P.follows .mixedOrders = true) {n : Nat} {f : FuncId} {args : List Val} {v : Val} {s' : St}
    (h : evFn P X F lf n f args start = some (v, s')) {I : Im} {w : World} {xs : List Value} (hI : ∀ b x, I b = some x → w.heap[b]? = some x) (hE : Env I w) (hv : VRs (fun _ => none) I args xs) :
    Calls P f xs.toArray w fun e w' => ∃ x, e = .returned x ∧ ∃ ρ' I', Sub I I' ∧ SR ρ' I' s'.mem w' ∧ VR ρ' I' v x := by
  have hi : Inv start := fun id c h => by cases h
  have hc := evFn_ok (P := P) (lf := lf) hF hX hmix n f args start v s' h start s' h (.same (Nat.le_refl _) hi)
  refine Calls.mono (hc.2 (fun _ => none) I w xs ⟨fun id b o n h => (by cases h), fun id c h => (by cases h), fun _ _ _ _ _ _ _ h => (by cases h), hI, fun _ _ _ _ h => (by cases h), hE⟩ (fun _ _ _ => rfl) hv) ?_
  rintro e w' ⟨x, rfl, ρ1, I1, _, p2, p3, p4, _⟩
  exact ⟨x, rfl, ρ1, I1, p2, p3, p4⟩

/-- The world as it is. -/
def World.whole (w : World) (num : Nat → Int := fun _ => 0) : Im := ⟨fun b => w.heap[b]?, w.os, w.tape, w.output, w.heap.size, num⟩
theorem whole_env (w : World) {num : Nat → Int} : Env (World.whole w num) w := ⟨rfl, rfl, rfl, Nat.le_refl _⟩

/-- A function that hands back a truth, out of the evaluator's. -/
theorem truth_calls_num {X : Ext} {F : FuncId → Option Func} (hF : ∀ f fn, F f = some fn → P.funcs[f]? = some fn ∧ (fn.name == "runtime.NumGoroutine") = false) (hX : ExtOK P X) (hmix : P.follows .mixedOrders = true) {n : Nat} {f : FuncId} {args : List Val} {r : Bool}
    (h : truthOf P X F lf n f args = some r) {w : World} {num : Nat → Int} {xs : List Value} (hv : VRs (fun _ => none) (World.whole w num) args xs) : Calls P f xs.toArray w fun e w' => e = .returned (.bool r) ∧ Below w.heap.size w w' := by
  unfold truthOf at h
  split at h
  · rename_i b s' hev
    simp only [Option.some.injEq] at h
    subst h
    refine Calls.mono (evaluated (P := P) (lf := lf) hF hX hmix hev (fun b x h => h) (whole_env w) hv) ?_
    rintro e w' ⟨x, rfl, ρ', I', hs, hsr, hvr⟩
    cases hvr
    refine ⟨rfl, hsr.env.os.trans hs.os, hsr.env.tape.trans hs.tape, hsr.env.output.trans hs.output, by have := hsr.env.size; rw [hs.size] at this; exact this, fun k hk => ?_⟩
    have hg : (World.whole w num) k = some w.heap[k] := by simp [World.whole, hk]
    rw [hsr.im k _ (hs.blk k _ hg)]
    exact (Array.getElem?_eq_getElem hk).symm
  · cases h
theorem truth_calls {X : Ext} {F : FuncId → Option Func} (hF : ∀ f fn, F f = some fn → P.funcs[f]? = some fn ∧ (fn.name == "runtime.NumGoroutine") = false) (hX : ExtOK P X) (hmix : P.follows .mixedOrders = true) {n : Nat} {f : FuncId} {args : List Val} {r : Bool}
    (h : truthOf P X F lf n f args = some r) {w : World} {xs : List Value} (hv : VRs (fun _ => none) (World.whole w) args xs) : Calls P f xs.toArray w fun e w' => e = .returned (.bool r) ∧ Below w.heap.size w w' :=
  truth_calls_num hF hX hmix h hv
end
end Go.Proofs.Ytjgdcifbhmjinaa.Ev
