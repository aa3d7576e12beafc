/- Code, functions: what the evaluator does, the model does. -/
import Derived.Test.YtjgdcifbhmjinaaEvD
import Derived.Scope
namespace Go.Proofs.Ytjgdcifbhmjinaa.Ev
open Go

theorem hasLabel_find (l : Nat) (c : Code) : hasLabel l c = (findLabel c l).isSome := by
  induction c with
  | seq x y ihx ihy =>
    simp only [hasLabel, findLabel, ihx, ihy]
    cases h : findLabel x l with
    | some r => simp
    | none => simp
  | label k =>
    simp only [hasLabel, findLabel]
    by_cases h : k = l
    · subst h; simp
    · have : Nat.beq k l = false := by
        cases hb : Nat.beq k l with
        | false => rfl
        | true => exact absurd (Nat.eq_of_beq_eq_true hb) h
      rw [this]
      have h2 : (k == l) = false := by simpa using h
      rw [h2]
      rfl
  | _ => rfl

/-- The code from its beginning, or from a label on. -/
def entry (c : Code) : Option Nat → Option Code
  | none => some c
  | some l => findLabel c l

section
variable {P : Program} {call : CallF} {lf nt : Nat}

/-- What is to be shown of a way to do code. -/
def CodeOK (P : Program) (nt : Nat) (f : Tr → M (Ex × Tr)) (c : Code) : Prop :=
  ∀ (a : Tr) (s : St) (ex : Ex) (a' : Tr) (s' : St), f a s = some ((ex, a'), s') → ∀ (s0 s0' : St), f a s0 = some ((ex, a'), s0') → Pair s0 s0' s s' → ∀ (ρ : Rho) (I : Im) (w : World) (act : Act), SR ρ I s.mem w → Free ρ s s' → AR ρ I nt a act →
    ∀ Q : Exit → Act → World → Prop, (∀ act' w', CPost ρ I s s' nt a' act' w' → Q (toExit ex) act' w') → c.wp P Q act w

/-- One part, and then what comes of it. -/
theorem seq_ok {α β : Type} {p : M α} {f : α → M β} (hp : Made p) (hf : ∀ a, Made (f a)) {s0 s0' s s' : St} {v : β} (h0 : (p >>= f) s0 = some (v, s0')) (h : (p >>= f) s = some (v, s')) (hP : Pair s0 s0' s s') {ρ : Rho} (hfr : Free ρ s s') :
    ∃ a s01 s1, p s0 = some (a, s01) ∧ f a s01 = some (v, s0') ∧ p s = some (a, s1) ∧ f a s1 = some (v, s') ∧ Pair s0 s01 s s1 ∧ Pair s01 s0' s1 s' ∧ s.next ≤ s1.next ∧ s1.next ≤ s'.next ∧ Free ρ s s1 := by
  obtain ⟨a, s01, s1, h1, h2, h3, h4, P1, P2⟩ := pair_bind hp hf h0 h hP
  have m1 := hp.mono _ _ _ h3
  have m2 := (hf a).mono _ _ _ h4
  exact ⟨a, s01, s1, h1, h2, h3, h4, P1, P2, m1, m2, hfr.left m2⟩

theorem loop_ok {c : Code} {body : Tr → M (Ex × Tr)} (hb : CodeOK P nt body c) (hm : ∀ a, Made (body a)) : ∀ (n : Nat) (a : Tr) (s : St) (ex : Ex) (a' : Tr) (s' : St), evLoop body n a s = some ((ex, a'), s') → ∀ (s0 s0' : St), evLoop body n a s0 = some ((ex, a'), s0') →
    Pair s0 s0' s s' → ∀ (ρ : Rho) (I : Im) (w : World) (act : Act), SR ρ I s.mem w → Free ρ s s' → AR ρ I nt a act → ∀ Q : Exit → Act → World → Prop, (∀ act' w', CPost ρ I s s' nt a' act' w' → Q (toExit ex) act' w') →
    ∀ (b : Frame) (k : List Item) (cs : List Frame), ∃ e act' w', Q e act' w' ∧ Arrives P (lone (b.at act (.code c :: .inLoop c :: k)) cs w) b k cs e act' w' := by
  intro n
  induction n with
  | zero => intro a s ex a' s' h; simp only [evLoop, fail_some] at h
  | succ n ih =>
    intro a s ex a' s' h s0 s0' h0 hP ρ I w act hsr hf ha Q hQ b k cs
    unfold evLoop at h h0
    have hmade : ∀ r : Ex × Tr, Made (match r with
        | (.normal, a) => evLoop body n a
        | (e, a) => pure (e, a) : M (Ex × Tr)) := by
      intro r
      split
      · exact Made.evLoop hm n _
      · exact .pure _
    obtain ⟨r, s01, s1, h1, h2, h3, h4, P1, P2, m1, m2, hf1⟩ := seq_ok (hm a) hmade h0 h hP hf
    obtain ⟨ex1, a1⟩ := r
    have hw := hb a s ex1 a1 s1 h3 s0 s01 h1 P1 ρ I w act hsr hf1 ha (Exit.then (fun act' w' => ∀ (b : Frame) (k : List Item) (cs : List Frame), ∃ e act'' w'', Q e act'' w'' ∧ Arrives P (lone (b.at act' (.code c :: .inLoop c :: k)) cs w') b k cs e act'' w'') Q) ?_
    · obtain ⟨e, act1, w1, hq, harr⟩ := hw b (.inLoop c :: k) cs
      cases e with
      | normal =>
        obtain ⟨e2, act2, w2, hq2, harr2⟩ := hq b k cs
        exact ⟨e2, act2, w2, hq2, .of_steps (Steps.trans harr (.one step_inLoop)) harr2⟩
      | exit id => exact ⟨_, act1, w1, hq, .pass (x := .inLoop c) rfl (fun _ _ => .inl (by simp)) harr⟩
      | goto l => exact ⟨_, act1, w1, hq, .pass (x := .inLoop c) rfl (fun _ _ => .inl (by simp)) harr⟩
      | ret => exact ⟨_, act1, w1, hq, .pass (x := .inLoop c) rfl (fun _ _ => .inl (by simp)) harr⟩
      | panic ch => exact ⟨_, act1, w1, hq, .pass (x := .inLoop c) rfl (fun _ _ => .inl (by simp)) harr⟩
      | outgrown => exact ⟨_, act1, w1, hq, .pass (x := .inLoop c) rfl (fun _ _ => .inl (by simp)) harr⟩
    · intro act1 w1 hcp
      obtain ⟨ρ1, I1, p1, p2, p3, p4, p5⟩ := hcp
      cases ex1 with
      | normal =>
        simp only at h2 h4
        intro b k cs
        exact ih a1 s1 ex a' s' h4 s01 s0' h2 P2 ρ1 I1 w1 act1 p3 (hf.right m1 p5) p4 Q (fun act' w' hcp => hQ act' w' (hcp.after p1 p2 p5 m1 m2)) b k cs
      | exit id =>
        simp only [pure_some, Prod.mk.injEq] at h4
        obtain ⟨⟨rfl, rfl⟩, rfl⟩ := h4
        exact hQ act1 w1 ⟨ρ1, I1, p1, p2, p3, p4, p5⟩
      | goto l =>
        simp only [pure_some, Prod.mk.injEq] at h4
        obtain ⟨⟨rfl, rfl⟩, rfl⟩ := h4
        exact hQ act1 w1 ⟨ρ1, I1, p1, p2, p3, p4, p5⟩
      | ret =>
        simp only [pure_some, Prod.mk.injEq] at h4
        obtain ⟨⟨rfl, rfl⟩, rfl⟩ := h4
        exact hQ act1 w1 ⟨ρ1, I1, p1, p2, p3, p4, p5⟩

theorem scope_ok {c : Code} {f : Option Nat → Tr → M (Ex × Tr)} (hb : ∀ l c', entry c l = some c' → CodeOK P nt (f l) c') (hm : ∀ l a, Made (f l a)) : ∀ (n : Nat) (l : Option Nat) (c' : Code) (a : Tr) (s : St) (ex : Ex) (a' : Tr) (s' : St), entry c l = some c' →
    evScope f (fun l => hasLabel l c) n l a s = some ((ex, a'), s') → ∀ (s0 s0' : St), evScope f (fun l => hasLabel l c) n l a s0 = some ((ex, a'), s0') →
    Pair s0 s0' s s' → ∀ (ρ : Rho) (I : Im) (w : World) (act : Act), SR ρ I s.mem w → Free ρ s s' → AR ρ I nt a act → ∀ Q : Exit → Act → World → Prop, (∀ act' w', CPost ρ I s s' nt a' act' w' → Q (toExit ex) act' w') →
    ∀ (b : Frame) (k : List Item) (cs : List Frame), ∃ e act' w', Q e act' w' ∧ Arrives P (lone (b.at act (.code c' :: .inScope c :: k)) cs w) b k cs e act' w' := by
  intro n
  induction n with
  | zero => intro l c' a s ex a' s' _ h; simp only [evScope, fail_some] at h
  | succ n ih =>
    intro l c' a s ex a' s' hent h s0 s0' h0 hP ρ I w act hsr hf ha Q hQ b k cs
    unfold evScope at h h0
    have hmade : ∀ r : Ex × Tr, Made (match r with
        | (.goto k, a) => match hasLabel k c with
          | true => evScope f (fun l => hasLabel l c) n (some k) a
          | false => pure (.goto k, a)
        | (e, a) => pure (e, a) : M (Ex × Tr)) := by
      intro r
      split
      · split
        · exact Made.evScope hm n _ _
        · exact .pure _
      · exact .pure _
    obtain ⟨r, s01, s1, h1, h2, h3, h4, P1, P2, m1, m2, hf1⟩ := seq_ok (hm l a) hmade h0 h hP hf
    obtain ⟨ex1, a1⟩ := r
    have hw := hb l c' hent a s ex1 a1 s1 h3 s0 s01 h1 P1 ρ I w act hsr hf1 ha (fun e act' w' => match e with
      | .goto l' => (hasLabel l' c = true ∧ ∃ rest, findLabel c l' = some rest ∧ ∀ (b : Frame) (k : List Item) (cs : List Frame), ∃ e act'' w'', Q e act'' w'' ∧ Arrives P (lone (b.at act' (.code rest :: .inScope c :: k)) cs w') b k cs e act'' w'') ∨
          (hasLabel l' c = false ∧ Q (.goto l') act' w')
      | e => Q e act' w') ?_
    · obtain ⟨e, act1, w1, hq, harr⟩ := hw b (.inScope c :: k) cs
      cases e with
      | normal => exact ⟨.normal, act1, w1, hq, Steps.trans harr (.one step_inScope)⟩
      | exit id => exact ⟨.exit id, act1, w1, hq, fun k' hk => harr k' (by simp [exitTo, hk])⟩
      | goto l' =>
        simp only at hq
        rcases hq with ⟨_, rest, hfl, hr⟩ | ⟨hn, hq⟩
        · have hg : gotoIn l' (.inScope c :: k) = some (.code rest :: .inScope c :: k) := by simp [gotoIn, hfl]
          obtain ⟨e₂, a₂, w₂, hq₂, harr₂⟩ := hr b k cs
          exact ⟨e₂, a₂, w₂, hq₂, .of_steps (harr _ hg) harr₂⟩
        · have hfn : findLabel c l' = none := by
            rw [hasLabel_find] at hn
            simpa using hn
          exact ⟨.goto l', act1, w1, hq, fun k' hk => harr k' (by simp [gotoIn, hfn, hk])⟩
      | ret => exact ⟨_, act1, w1, hq, harr⟩
      | panic ch => exact ⟨_, act1, w1, hq, harr⟩
      | outgrown => exact ⟨_, act1, w1, hq, harr⟩
    · intro act1 w1 hcp
      obtain ⟨ρ1, I1, p1, p2, p3, p4, p5⟩ := hcp
      cases ex1 with
      | goto l' =>
        simp only at h2 h4
        cases hl : hasLabel l' c with
        | true =>
          rw [hl] at h2 h4
          have hs : (findLabel c l').isSome = true := by rw [← hasLabel_find]; exact hl
          obtain ⟨rest, hr⟩ := Option.isSome_iff_exists.1 hs
          refine .inl ⟨hl, rest, hr, fun b k cs => ?_⟩
          exact ih (some l') rest a1 s1 ex a' s' hr h4 s01 s0' h2 P2 ρ1 I1 w1 act1 p3 (hf.right m1 p5) p4 Q (fun act' w' hcp => hQ act' w' (hcp.after p1 p2 p5 m1 m2)) b k cs
        | false =>
          rw [hl] at h4
          simp only [pure_some, Prod.mk.injEq] at h4
          obtain ⟨⟨rfl, rfl⟩, rfl⟩ := h4
          exact .inr ⟨hl, hQ act1 w1 ⟨ρ1, I1, p1, p2, p3, p4, p5⟩⟩
      | normal =>
        simp only [pure_some, Prod.mk.injEq] at h4
        obtain ⟨⟨rfl, rfl⟩, rfl⟩ := h4
        exact hQ act1 w1 ⟨ρ1, I1, p1, p2, p3, p4, p5⟩
      | exit id =>
        simp only [pure_some, Prod.mk.injEq] at h4
        obtain ⟨⟨rfl, rfl⟩, rfl⟩ := h4
        exact hQ act1 w1 ⟨ρ1, I1, p1, p2, p3, p4, p5⟩
      | ret =>
        simp only [pure_some, Prod.mk.injEq] at h4
        obtain ⟨⟨rfl, rfl⟩, rfl⟩ := h4
        exact hQ act1 w1 ⟨ρ1, I1, p1, p2, p3, p4, p5⟩

/-- Two parts, one behind the other. -/
theorem then_ok {x y : Code} {fx fy : Tr → M (Ex × Tr)} (hx : CodeOK P nt fx x) (hy : CodeOK P nt fy y) (mx : ∀ a, Made (fx a)) (my : ∀ a, Made (fy a)) {f : Tr → M (Ex × Tr)}
    (hf : ∀ a, f a = (do
      let r ← fx a
      match r with
      | (.normal, a) => fy a
      | (e, a) => pure (e, a))) : CodeOK P nt f (.seq x y) := by
  intro a s ex a' s' h s0 s0' h0 hP ρ I w act hsr hfr ha Q hQ
  rw [hf] at h h0
  have hmade : ∀ r : Ex × Tr, Made (match r with
      | (.normal, a) => fy a
      | (e, a) => pure (e, a) : M (Ex × Tr)) := by
    intro r
    split
    · exact my _
    · exact .pure _
  obtain ⟨r, s01, s1, h1, h2, h3, h4, P1, P2, m1, m2, hf1⟩ := seq_ok (mx a) hmade h0 h hP hfr
  obtain ⟨ex1, a1⟩ := r
  refine wp_seq (hx a s ex1 a1 s1 h3 s0 s01 h1 P1 ρ I w act hsr hf1 ha _ (fun act1 w1 hcp => ?_))
  obtain ⟨ρ1, I1, p1, p2, p3, p4, p5⟩ := hcp
  cases ex1 with
  | normal => exact hy a1 s1 ex a' s' h4 s01 s0' h2 P2 ρ1 I1 w1 act1 p3 (hfr.right m1 p5) p4 Q (fun act' w' hcp => hQ act' w' (hcp.after p1 p2 p5 m1 m2))
  | exit id =>
    simp only [pure_some, Prod.mk.injEq] at h4
    obtain ⟨⟨rfl, rfl⟩, rfl⟩ := h4
    exact hQ act1 w1 ⟨ρ1, I1, p1, p2, p3, p4, p5⟩
  | goto l =>
    simp only [pure_some, Prod.mk.injEq] at h4
    obtain ⟨⟨rfl, rfl⟩, rfl⟩ := h4
    exact hQ act1 w1 ⟨ρ1, I1, p1, p2, p3, p4, p5⟩
  | ret =>
    simp only [pure_some, Prod.mk.injEq] at h4
    obtain ⟨⟨rfl, rfl⟩, rfl⟩ := h4
    exact hQ act1 w1 ⟨ρ1, I1, p1, p2, p3, p4, p5⟩

theorem still_ok {c : Code} {f : Tr → M (Ex × Tr)} (ex0 : Ex) (hf : ∀ a, f a = pure (ex0, a)) (hw : ∀ (Q : Exit → Act → World → Prop) act w, Q (toExit ex0) act w → c.wp P Q act w) : CodeOK P nt f c := by
  intro a s ex a' s' h s0 s0' h0 hP ρ I w act hsr hfr ha Q hQ
  rw [hf] at h
  simp only [pure_some, Prod.mk.injEq] at h
  obtain ⟨⟨rfl, rfl⟩, rfl⟩ := h
  exact hw Q act w (hQ act w ⟨ρ, I, .refl _, .refl _, hsr, ha, fun _ h => .inl h⟩)
theorem fail_ok {c : Code} {f : Tr → M (Ex × Tr)} (hf : ∀ a, f a = fail) : CodeOK P nt f c := by
  intro a s ex a' s' h
  rw [hf] at h
  simp only [fail_some] at h

theorem evCode_ok (hc : CallOK P call) (hm : ∀ f args, Made (call f args)) (hmix : P.follows .mixedOrders = true) (c : Code) : ∀ (l : Option Nat) (c' : Code), entry c l = some c' → CodeOK P nt (evCode P call lf nt c l) c' := by
  have hmade : ∀ (c : Code) (l : Option Nat) (a : Tr), Made (evCode P call lf nt c l a) := fun c l a => Made.evCode hm lf nt c l a
  induction c with
  | skip =>
    intro l c' he
    cases l with
    | none => cases he; exact still_ok .normal (fun a => by unfold evCode; rfl) (fun Q act w h => wp_skip h)
    | some l => cases he
  | label k =>
    intro l c' he
    cases l with
    | none => cases he; exact still_ok .normal (fun a => by unfold evCode; rfl) (fun Q act w h => wp_label h)
    | some l =>
      simp only [entry, findLabel] at he
      split at he
      · cases he; exact still_ok .normal (fun a => by unfold evCode; rfl) (fun Q act w h => wp_skip h)
      · cases he
  | region id ops draw =>
    intro l c' he
    cases l with
    | some l => cases he
    | none =>
      cases he
      intro a s ex a' s' h s0 s0' h0 hP ρ I w act hsr hf ha Q hQ
      unfold evCode at h h0
      obtain ⟨a1, s01, s1, h1, h2, h3, h4, P1, P2, m1, m2, hf1⟩ := seq_ok (Made.evRegion hm nt ops draw a) (fun _ => .pure _) h0 h hP hf
      simp only [pure_some, Prod.mk.injEq] at h4
      obtain ⟨⟨rfl, rfl⟩, rfl⟩ := h4
      cases draw with
      | false => exact region_false hc hm h3 h1 P1 hsr hf1 ha (fun act' w' hcp => hQ act' w' hcp)
      | true => exact region_true hc hm hmix h3 h1 P1 hsr hf1 ha (fun act' w' hcp => hQ act' w' hcp)
  | seq x y ihx ihy =>
    intro l c' he
    cases l with
    | none =>
      cases he
      exact then_ok (ihx none x rfl) (ihy none y rfl) (hmade x none) (hmade y none) (fun a => by
        conv => lhs; unfold evCode
        rfl)
    | some l =>
      simp only [entry, findLabel] at he
      cases hx : findLabel x l with
      | some rest =>
        rw [hx] at he
        cases he
        exact then_ok (ihx (some l) rest hx) (ihy none y rfl) (hmade x (some l)) (hmade y none) (fun a => by
          conv => lhs; unfold evCode
          rw [hasLabel_find, hx]
          rfl)
      | none =>
        rw [hx] at he
        have := ihy (some l) c' he
        intro a s ex a' s' h s0 s0' h0
        unfold evCode at h h0
        rw [hasLabel_find, hx] at h h0
        exact this a s ex a' s' h s0 s0' h0
  | cond x y z ihy ihz =>
    intro l c' he
    cases l with
    | some l => cases he
    | none =>
      cases he
      intro a s ex a' s' h s0 s0' h0 hP ρ I w act hsr hf ha Q hQ
      unfold evCode at h h0
      have hv := ha.operand x
      generalize evOperand a x = xv at h h0 hv
      split at h
      · generalize hx : act.eval x = xc at hv
        cases hv
        exact wp_cond_true hx (ihy none y rfl a s ex a' s' h s0 s0' h0 hP ρ I w act hsr hf ha Q hQ)
      · generalize hx : act.eval x = xc at hv
        cases hv
        exact wp_cond_false hx (ihz none z rfl a s ex a' s' h s0 s0' h0 hP ρ I w act hsr hf ha Q hQ)
      · simp only [fail_some] at h
  | block id c ih =>
    intro l c' he
    cases l with
    | some l => cases he
    | none =>
      cases he
      intro a s ex a' s' h s0 s0' h0 hP ρ I w act hsr hf ha Q hQ
      unfold evCode at h h0
      have hm2 : ∀ r : Ex × Tr, Made (match r with
          | (.exit k, a) => match Nat.beq k id with
            | true => pure (.normal, a)
            | false => pure (.exit k, a)
          | (e, a) => pure (e, a) : M (Ex × Tr)) := by
        intro r
        split
        · split <;> exact .pure _
        · exact .pure _
      obtain ⟨r, s01, s1, h1, h2, h3, h4, P1, P2, m1, m2, hf1⟩ := seq_ok (hmade c none a) hm2 h0 h hP hf
      obtain ⟨ex1, a1⟩ := r
      refine wp_block (ih none c rfl a s ex1 a1 s1 h3 s0 s01 h1 P1 ρ I w act hsr hf1 ha _ (fun act1 w1 hcp => ?_))
      cases ex1 with
      | exit k =>
        simp only at h4
        cases hk : Nat.beq k id with
        | true =>
          rw [hk] at h4
          simp only [pure_some, Prod.mk.injEq] at h4
          obtain ⟨⟨rfl, rfl⟩, rfl⟩ := h4
          have := Nat.eq_of_beq_eq_true hk
          simp only [toExit, Exit.inBlock, this, if_true]
          exact hQ act1 w1 hcp
        | false =>
          rw [hk] at h4
          simp only [pure_some, Prod.mk.injEq] at h4
          obtain ⟨⟨rfl, rfl⟩, rfl⟩ := h4
          have := Nat.ne_of_beq_eq_false hk
          simp only [toExit, Exit.inBlock, this, if_false]
          exact hQ act1 w1 hcp
      | normal =>
        simp only [pure_some, Prod.mk.injEq] at h4
        obtain ⟨⟨rfl, rfl⟩, rfl⟩ := h4
        exact hQ act1 w1 hcp
      | goto l =>
        simp only [pure_some, Prod.mk.injEq] at h4
        obtain ⟨⟨rfl, rfl⟩, rfl⟩ := h4
        exact hQ act1 w1 hcp
      | ret =>
        simp only [pure_some, Prod.mk.injEq] at h4
        obtain ⟨⟨rfl, rfl⟩, rfl⟩ := h4
        exact hQ act1 w1 hcp
  | loop c ih =>
    intro l c' he
    cases l with
    | some l => cases he
    | none =>
      cases he
      intro a s ex a' s' h s0 s0' h0 hP ρ I w act hsr hf ha Q hQ b k cs
      unfold evCode at h h0
      obtain ⟨e, act', w', hq, harr⟩ := loop_ok (ih none c rfl) (hmade c none) lf a s ex a' s' h s0 s0' h0 hP ρ I w act hsr hf ha Q hQ b k cs
      exact ⟨e, act', w', hq, .of_steps (.one step_loop) harr⟩
  | rangeFunc f ps x y => intro l c' he; cases l <;> cases he; exact fail_ok (fun a => by unfold evCode; rfl)
  | exit id =>
    intro l c' he
    cases l with
    | none => cases he; exact still_ok (.exit id) (fun a => by unfold evCode; rfl) (fun Q act w h => wp_exit h)
    | some l => cases he
  | scope c ih =>
    intro l c' he
    cases l with
    | some l => cases he
    | none =>
      cases he
      intro a s ex a' s' h s0 s0' h0 hP ρ I w act hsr hf ha Q hQ b k cs
      unfold evCode at h h0
      obtain ⟨e, act', w', hq, harr⟩ := scope_ok ih (hmade c) lf none c a s ex a' s' rfl h s0 s0' h0 hP ρ I w act hsr hf ha Q hQ b k cs
      exact ⟨e, act', w', hq, .of_steps (.one step_scope) harr⟩
  | goto k =>
    intro l c' he
    cases l with
    | none => cases he; exact still_ok (.goto k) (fun a => by unfold evCode; rfl) (fun Q act w h => wp_goto h)
    | some l => cases he
  | ret =>
    intro l c' he
    cases l with
    | none => cases he; exact still_ok .ret (fun a => by unfold evCode; rfl) (fun Q act w h => wp_ret h)
    | some l => cases he
  | refuse why => intro l c' he; cases l <;> cases he; exact fail_ok (fun a => by unfold evCode; rfl)
end
end Go.Proofs.Ytjgdcifbhmjinaa.Ev
