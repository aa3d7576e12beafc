/- What has no address; comparisons with nil; assertions; calls; each operation. -/
import Derived.Laws.StructEq
import Derived.Test.YtjgdcifbhmjinaaEvQ
import Derived.Test.YtjgdcifbhmjinaaEvL
import Derived.Laws.IdiomStrings
namespace Go.Proofs.Ytjgdcifbhmjinaa.Ev
open Go

section
variable {P : Program} {ρ : Rho} {I : Im} {s s' : St} {w : World}

theorem pureSem_run {α : Type} : ∀ (e : Sem α) {a : α}, pureSem P e = some a → ∀ w, e.run P w = .ok a w := by
  intro e
  induction e with
  | pure a => intro b h w; simp only [pureSem, Option.some.injEq] at h; subst h; rfl
  | program k ih => intro b h w; exact ih P h w
  | mark m k ih => intro b h w; exact ih h w
  | _ => intro b h; simp [pureSem] at h

theorem scalar_ok {rE : Operand → Val} {rC : Operand → Value} {o : Oper} {v : Val} (h : evScalar P rE o = some v) (hr : ∀ x, VR ρ I (rE x) (rC x)) (hs : ∀ cs b, o.op ≠ .select cs b) :
    ∃ x, (execOp rC o).run P w = .ok (.value x) w ∧ VR ρ I v x := by
  unfold evScalar at h
  split at h
  · rename_i hall
    split at h
    · rename_i x hx
      simp only [Option.some.injEq] at h
      subst h
      refine ⟨x, ?_, .ofV x⟩
      have e : execOp rC o = execOp (fun x => (rE x).val?.getD undef) o := execOp_congr o hs (fun x hx => by
        have := (Array.all_eq_true'.1 hall) x hx
        obtain ⟨y, hy⟩ := Option.isSome_iff_exists.1 this
        rw [hy]
        exact ((hr x).val y hy).symm)
      rw [e]
      exact pureSem_run _ hx w
    · cases h
  · cases h

theorem assert_ok {x v : Val} {y : Value} {xt t : TypeId} {ok : Bool} (h : evAssert P x t ok = some v) (hx : VR ρ I x y) : ∃ z, (Instr.typeAssert y xt t ok).run P w = .ok z w ∧ VR ρ I v z := by
  unfold evAssert at h
  split at h
  · cases h
  · rename_i d tt vv hni hd
    cases hx with
    | @ifc _ _ yy hv =>
      have nif : ∀ q, d ≠ .interface q := fun q e => hni q e
      cases hb : Nat.beq tt t with
      | true =>
        rw [hb] at h
        simp only [Option.some.injEq] at h
        obtain rfl := Nat.eq_of_beq_eq_true hb
        cases ok with
        | true =>
          simp only at h
          subst h
          refine ⟨.tuple #[yy, .bool true], ?_, (VR.tup (.cons hv (.cons .sc .nil)) : VR ρ I _ (.tuple [yy, .bool true].toArray))⟩
          cases d <;> first | exact absurd rfl (nif _) | simp [Instr.typeAssert, run_underlying hd]
        | false =>
          simp only at h
          subst h
          refine ⟨yy, ?_, hv⟩
          cases d <;> first | exact absurd rfl (nif _) | simp [Instr.typeAssert, run_underlying hd]
      | false =>
        rw [hb] at h
        have hne := Nat.ne_of_beq_eq_false hb
        cases ok with
        | false => cases h
        | true =>
          simp only [Option.map_eq_some_iff] at h
          obtain ⟨z, hz, rfl⟩ := h
          obtain ⟨i, zv, hi, hzv, rfl, -⟩ := zero_some hz
          refine ⟨.tuple #[zv, .bool false], ?_, (VR.tup (.cons (.ofV zv) (.cons .sc .nil)) : VR ρ I _ (.tuple [zv, .bool false].toArray))⟩
          have hrun : (zeroValue t).run P w = .ok zv w := by simp [zeroValue, typeInfo, hi, hzv]
          cases d <;> first | exact absurd rfl (nif _) | simp [Instr.typeAssert, run_underlying hd, hne, hrun]
  · cases h

theorem eq_in {t : TypeId} {d : TypeDesc} {x y : Val} {a b : Value} (n : Nat) (hd : P.underlying t = some d) (h : nilSide d x y = true) (hx : VR ρ I x a) (hy : VR ρ I y b) :
    (Op.equalIn (n + 1) t a b).run P w = .ok false w ∧ (Op.equalIn (n + 1) t b a).run P w = .ok false w := by
  unfold nilSide at h
  split at h
  · split at h
    · cases hx; cases hy; constructor <;> simp [Op.equalIn, run_underlying hd]
    · cases hx; cases hy; constructor <;> simp [Op.equalIn, run_underlying hd]
    · cases hy; cases hx <;> constructor <;> simp [Op.equalIn, run_underlying hd]
    · cases h
  · split at h
    · cases hx; cases hy; constructor <;> simp [Op.equalIn, run_underlying hd]
    · cases hx; cases hy; constructor <;> simp [Op.equalIn, run_underlying hd]
    · cases h
  · split at h
    · cases hx; cases hy; constructor <;> simp [Op.equalIn, run_underlying hd]
    · cases h
  · split at h
    · cases hx; cases hy; constructor <;> simp [Op.equalIn, run_underlying hd]
    · cases h
  · cases h

/-- Values of no aggregate, of which not both are the nil of an interface. -/
def calm : Value → Value → Bool
  | .agg _, _ | _, .agg _ | .nilIface, .nilIface | .int .., _ | .float .., _ | .complex .., _ | .string _, _ => false
  | _, _ => true
theorem calm_ok {t : TypeId} {a b : Value} (h : calm a b = true) (o : BinOp) (xo yo : Operand) : (eqGuard o t xo yo a b).run P w = .ok () w ∧
    binOp .eql t a b = (do pure (.bool (← Op.equal t a b))) ∧ binOp .neq t a b = (do pure (.bool (!(← Op.equal t a b)))) := by
  refine ⟨?_, ?_, ?_⟩
  · unfold eqGuard
    cases o <;> first | rfl | skip
    all_goals cases a <;> cases b <;> first | rfl | (simp [calm] at h)
  · cases a <;> cases b <;> first | rfl | (simp [calm] at h)
  · cases a <;> cases b <;> first | rfl | (simp [calm] at h)

theorem nilSide_calm {d : TypeDesc} {x y : Val} {a b : Value} (h : nilSide d x y = true) (hx : VR ρ I x a) (hy : VR ρ I y b) : calm a b = true ∧ calm b a = true := by
  unfold nilSide at h
  split at h
  all_goals first
    | exact absurd h Bool.false_ne_true
    | (split at h <;> first
      | exact absurd h Bool.false_ne_true
      | (cases hx <;> cases hy <;> exact ⟨rfl, rfl⟩))

theorem eq_run {t : TypeId} {d : TypeDesc} {x y : Val} {a b : Value} (hd : P.underlying t = some d) (h : nilSide d x y = true) (hx : VR ρ I x a) (hy : VR ρ I y b) :
    (∀ o xo yo, (eqGuard o t xo yo a b).run P w = .ok () w ∧ (eqGuard o t xo yo b a).run P w = .ok () w) ∧
    (binOp .eql t a b).run P w = .ok (.bool false) w ∧ (binOp .eql t b a).run P w = .ok (.bool false) w ∧ (binOp .neq t a b).run P w = .ok (.bool true) w ∧ (binOp .neq t b a).run P w = .ok (.bool true) w := by
  obtain ⟨c1, c2⟩ := nilSide_calm h hx hy
  obtain ⟨e1, e2⟩ := eq_in (P := P) (w := w) 9999 hd h hx hy
  have e1 : (Op.equal t a b).run P w = .ok false w := e1
  have e2 : (Op.equal t b a).run P w = .ok false w := e2
  refine ⟨fun o xo yo => ⟨(calm_ok c1 o xo yo).1, (calm_ok c2 o xo yo).1⟩, ?_, ?_, ?_, ?_⟩
  · rw [(calm_ok (P := P) (w := w) (t := t) c1 .eql default default).2.1]; simp only [Sem.run_bind, e1, Result.andThen, Sem.run_pure]
  · rw [(calm_ok (P := P) (w := w) (t := t) c2 .eql default default).2.1]; simp only [Sem.run_bind, e2, Result.andThen, Sem.run_pure]
  · rw [(calm_ok (P := P) (w := w) (t := t) c1 .eql default default).2.2]; simp only [Sem.run_bind, e1, Result.andThen, Sem.run_pure, Bool.not_false]
  · rw [(calm_ok (P := P) (w := w) (t := t) c2 .eql default default).2.2]; simp only [Sem.run_bind, e2, Result.andThen, Sem.run_pure, Bool.not_false]

theorem evEq_ok {op : BinOp} {t : TypeId} {xo yo : Operand} {x y v : Val} {a b : Value} (h : evEq P op t x y = some v) (hx : VR ρ I x a) (hy : VR ρ I y b) :
    ∃ z, (do eqGuard op t xo yo a b; binOp op t a b).run P w = .ok z w ∧ VR ρ I v z := by
  unfold evEq at h
  split at h
  · rename_i d hd
    cases hn : nilSide d x y || nilSide d y x with
    | false => rw [hn] at h; cases h
    | true =>
      rw [hn] at h
      simp only [Bool.or_eq_true] at hn
      have key : (∀ o xo yo, (eqGuard o t xo yo a b).run P w = .ok () w) ∧ (binOp .eql t a b).run P w = .ok (.bool false) w ∧ (binOp .neq t a b).run P w = .ok (.bool true) w := by
        rcases hn with hn | hn
        · obtain ⟨k1, k2, k3, k4, k5⟩ := eq_run (w := w) hd hn hx hy
          exact ⟨fun o xo yo => (k1 o xo yo).1, k2, k4⟩
        · obtain ⟨k1, k2, k3, k4, k5⟩ := eq_run (w := w) hd hn hy hx
          exact ⟨fun o xo yo => (k1 o xo yo).2, k3, k5⟩
      obtain ⟨k1, k2, k3⟩ := key
      cases op <;> simp only [Option.some.injEq, reduceCtorEq] at h <;> subst h
      · exact ⟨_, by simp only [Sem.run_bind, k1, Result.andThen, k2], .sc⟩
      · exact ⟨_, by simp only [Sem.run_bind, k1, Result.andThen, k3], .sc⟩
  · cases h

theorem limits_ok {v : Val} {x : Value} {r : IntKind × Int × Int} (h : bounds v = some r) (hv : VR ρ I v x) : ∃ n, x = .int r.1 n ∧ r.2.1 ≤ n ∧ n ≤ r.2.2 := by
  unfold bounds at h
  split at h
  · cases hv; simp only [Option.some.injEq] at h; subst h; exact ⟨_, rfl, Int.le_refl _, Int.le_refl _⟩
  · cases hv with
    | ab h1 h2 h3 => simp only [Option.some.injEq] at h; subst h; exact ⟨_, rfl, h1, h2⟩
  · cases h
theorem cmpAb_ok {op : BinOp} {a b c d x y : Int} {t : Bool} (h : cmpAb op a b c d = some t) (h1 : a ≤ x) (h2 : x ≤ b) (h3 : c ≤ y) (h4 : y ≤ d) : Op.intCmp op x y = pure (.bool t) ∧ (op = .lss ∨ op = .leq ∨ op = .gtr ∨ op = .geq ∨ op = .eql ∨ op = .neq) := by
  cases op <;> simp only [cmpAb, reduceCtorEq] at h
  all_goals
    refine ⟨?_, by simp⟩
    simp only [Op.intCmp]
    split at h
    · cases h
      congr 2
      first
        | (simp; omega)
        | (rw [beq_eq_false_iff_ne]; omega)
        | (rw [bne_iff_ne]; omega)
    · split at h
      · cases h
        congr 2
        first
          | (simp; omega)
          | (rw [beq_eq_false_iff_ne]; omega)
          | (rw [bne_iff_ne]; omega)
      · cases h
theorem eqGuard_int {op : BinOp} {t : TypeId} {xo yo : Operand} {k k' : IntKind} {x y : Int} : (eqGuard op t xo yo (.int k x) (.int k' y)).run P w = .ok () w := by
  unfold eqGuard
  cases op <;> rfl
theorem cmpI_ok {op : BinOp} {x y : Int} {t : Bool} (h : cmpI op x y = some t) : Op.intCmp op x y = pure (.bool t) ∧ (op = .lss ∨ op = .leq ∨ op = .gtr ∨ op = .geq ∨ op = .eql ∨ op = .neq) := by
  cases op <;> simp only [cmpI, reduceCtorEq, Option.some.injEq] at h <;> subst h <;> exact ⟨rfl, by simp⟩
theorem lookW_ok {op : BinOp} {j : Nat} {b : Bool} : ∀ {fs : List Fact}, lookW op j fs = some b → Fact.with_ op j b ∈ fs
  | [], h => by cases h
  | .with_ op' j' b' :: l, h => by
    unfold lookW at h
    split at h
    · rename_i hc
      simp only [Bool.and_eq_true, decide_eq_true_eq] at hc
      obtain ⟨rfl, hj⟩ := hc
      obtain rfl := Nat.eq_of_beq_eq_true hj
      obtain rfl := Option.some.inj h
      exact List.mem_cons_self
    · exact List.mem_cons_of_mem _ (lookW_ok h)
  | .const .. :: l, h => List.mem_cons_of_mem _ (lookW_ok (fs := l) h)
  | .made .. :: l, h => List.mem_cons_of_mem _ (lookW_ok (fs := l) h)
theorem lookC_ok {op : BinOp} {c : Int} {b : Bool} : ∀ {fs : List Fact}, lookC op c fs = some b → Fact.const op c b ∈ fs
  | [], h => by cases h
  | .const op' j' b' :: l, h => by
    unfold lookC at h
    split at h
    · rename_i hc
      simp only [Bool.and_eq_true, decide_eq_true_eq] at hc
      obtain ⟨rfl, rfl⟩ := hc
      obtain rfl := Option.some.inj h
      exact List.mem_cons_self
    · exact List.mem_cons_of_mem _ (lookC_ok h)
  | .with_ .. :: l, h => List.mem_cons_of_mem _ (lookC_ok (fs := l) h)
  | .made .. :: l, h => List.mem_cons_of_mem _ (lookC_ok (fs := l) h)
theorem evSy_ok {op : BinOp} {k : IntKind} {i : Nat} {fs : List Fact} {y : Val} {b : Value} {t : Bool} (h : evSy op k fs y = some t) (hf : ∀ f ∈ fs, f.holds k i I.num) (hy : VR ρ I y b) :
    ∃ n, b = .int k n ∧ cmpI op (I.num i) n = some t := by
  unfold evSy at h
  split at h
  · split at h
    · rename_i k' j fs' hk
      obtain rfl := of_decide_eq_true hk
      cases hy
      exact ⟨_, rfl, hf _ (lookW_ok h)⟩
    · cases h
  · split at h
    · rename_i k' c hk
      obtain rfl := of_decide_eq_true hk
      cases hy
      exact ⟨_, rfl, hf _ (lookC_ok h)⟩
    · cases h
  · cases h
theorem wrap_id (k : IntKind) (n : Int) (h1 : k.min ≤ n) (h2 : n ≤ k.max) : k.wrap n = n := by
  cases k <;> simp only [IntKind.wrap, IntKind.min, IntKind.max, IntKind.signed, IntKind.bits] at * <;> simp at * <;> omega
theorem lookM_ok {j l : Nat} {z : Bool} : ∀ {fs : List Fact}, lookM j fs = some (l, z) → Fact.made j l z ∈ fs
  | [], h => by cases h
  | .made j' l' z' :: r, h => by
    unfold lookM at h
    split at h
    · rename_i hj
      obtain rfl := Nat.eq_of_beq_eq_true hj
      simp only [Option.some.injEq, Prod.mk.injEq] at h
      obtain ⟨rfl, rfl⟩ := h
      exact List.mem_cons_self
    · exact List.mem_cons_of_mem _ (lookM_ok h)
  | .with_ .. :: r, h => List.mem_cons_of_mem _ (lookM_ok (fs := r) h)
  | .const .. :: r, h => List.mem_cons_of_mem _ (lookM_ok (fs := r) h)
theorem evNot_ok {t : TypeId} {k : IntKind} {i : Nat} {fs : List Fact} {y v : Val} {b : Value} (h : evNot k fs y = some v) (hf : ∀ f ∈ fs, f.holds k i I.num) (hy : VR ρ I y b) :
    ∃ z, (binOp .andNot t (.int k (I.num i)) b).run P w = .ok z w ∧ VR ρ I v z := by
  unfold evNot at h
  split at h
  · split at h
    · rename_i k' j fs' _ hk
      obtain rfl := of_decide_eq_true hk
      split at h
      · rename_i l z hm
        simp only [Option.some.injEq] at h
        subst h
        obtain ⟨rfl, h1, h2, h3, h4⟩ := hf _ (lookM_ok hm)
        cases hy
        refine ⟨.int .u64 (I.num l), ?_, .sy (fun f hf => ?_)⟩
        · rw [h3]
          simp only [binOp, Op.intBits, ne_eq, not_true_eq_false, if_false, Sem.run_pure]
          congr 2
          refine (wrap_id .u64 _ ?_ ?_)
          · exact Int.natCast_nonneg _
          · have := (BitVec.ofInt 64 (I.num i) &&& ~~~BitVec.ofInt 64 (I.num j)).isLt
            show ((BitVec.ofInt 64 (I.num i) &&& ~~~BitVec.ofInt 64 (I.num j)).toNat : Int) ≤ 18446744073709551615
            omega
        · simp only [List.mem_singleton] at hf
          subst hf
          show cmpI .eql _ _ = _
          simp only [cmpI, h4]
      · cases h
    · cases h
  · cases h
theorem evAb_ok {op : BinOp} {t : TypeId} {xo yo : Operand} {x y v : Val} {a b : Value} (h : evAb op x y = some v) (hx : VR ρ I x a) (hy : VR ρ I y b) :
    ∃ z, (do eqGuard op t xo yo a b; binOp op t a b).run P w = .ok z w ∧ VR ρ I v z := by
  unfold evAb at h
  split at h
  · rename_i k i fs
    cases hx with
    | sy hf =>
      obtain ⟨z, hz, hv⟩ := evNot_ok (P := P) (w := w) (t := t) h hf hy
      refine ⟨z, ?_, hv⟩
      have hg : (eqGuard .andNot t xo yo (.int k (I.num i)) b).run P w = .ok () w := by
        unfold eqGuard
        rfl
      simp only [Sem.run_bind, hg, Result.andThen, hz]
  · rename_i k lo hi m r k' n
    cases hx with
    | @ab _ _ _ x _ _ h1 h2 h3 =>
      cases hy
      split at h
      · rename_i hc
        simp only [Bool.and_eq_true, decide_eq_true_eq] at hc
        obtain ⟨⟨⟨rfl, c2⟩, rfl⟩, c4⟩ := hc
        simp only [Option.some.injEq] at h
        subst h
        have c4 := Nat.le_of_ble_eq_true c4
        refine ⟨.int k (r : Nat), ?_, .sc⟩
        simp only [Sem.run_bind, eqGuard_int, Result.andThen]
        have hb : binOp .rem t (.int k x) (.int k (m : Int)) = Op.intDiv .rem k x m := by
          simp [binOp]
        rw [hb]
        unfold Op.intDiv
        rw [if_neg (by omega)]
        have : Int.tmod x m = r := by
          rw [Int.tmod_eq_emod_of_nonneg (by omega)]
          exact h3
        rw [this]
        rfl
      · cases h
  · rename_i k i fs _
    cases hx with
    | sy hf =>
      split at h
      · rename_i t' hs
        simp only [Option.some.injEq] at h
        subst h
        obtain ⟨n, rfl, hc⟩ := evSy_ok hs hf hy
        obtain ⟨e1, e2⟩ := cmpI_ok hc
        refine ⟨.bool t', ?_, .sc⟩
        simp only [Sem.run_bind, eqGuard_int, Result.andThen]
        have hb : binOp op t (.int k (I.num i)) (.int k n) = Op.intCmp op (I.num i) n := by
          rcases e2 with rfl | rfl | rfl | rfl | rfl | rfl <;> simp [binOp]
        rw [hb, e1]
        rfl
      · cases h
  · split at h
    · rename_i k lo hi k' c d hbx hby
      cases hk : decide (k = k') with
      | false => rw [hk] at h; cases h
      | true =>
        rw [hk] at h
        have hk := of_decide_eq_true hk
        subst hk
        simp only at h
        split at h
        · rename_i t' hc
          simp only [Option.some.injEq] at h
          subst h
          obtain ⟨n, rfl, h1, h2⟩ := limits_ok hbx hx
          obtain ⟨n', rfl, h3, h4⟩ := limits_ok hby hy
          obtain ⟨e1, e2⟩ := cmpAb_ok hc h1 h2 h3 h4
          refine ⟨.bool t', ?_, .sc⟩
          simp only [Sem.run_bind, eqGuard_int, Result.andThen]
          have hb : binOp op t (.int k n) (.int k n') = Op.intCmp op n n' := by
            rcases e2 with rfl | rfl | rfl | rfl | rfl | rfl <;> simp [binOp]
          rw [hb, e1]
          rfl
        · cases h
    · cases h

theorem eqAb_ok {x y : Val} {a b : Value} {p : Bool} (h : eqAb x y = some p) (hx : VR ρ I x a) (hy : VR ρ I y b) : ∃ k n m, a = .int k n ∧ b = .int k m ∧ (n == m) = p := by
  unfold eqAb at h
  split at h
  · rename_i b' hab
    simp only [Option.some.injEq] at h
    subst h
    unfold evAb at hab
    split at hab
    · rename_i he; cases he
    · rename_i he; cases he
    · rename_i k i fs _
      cases hx with
      | sy hf =>
        split at hab
        · rename_i t' hs
          simp only [Option.some.injEq, Val.sc.injEq, Value.bool.injEq] at hab
          subst hab
          obtain ⟨n, rfl, hc⟩ := evSy_ok hs hf hy
          simp only [cmpI, Option.some.injEq] at hc
          exact ⟨_, _, _, rfl, rfl, hc⟩
        · cases hab
    · split at hab
      · rename_i k lo hi k' c d hbx hby
        split at hab
        · rename_i hk
          have hk := of_decide_eq_true hk
          subst hk
          split at hab
          · rename_i t' hc
            simp only [Option.some.injEq, Val.sc.injEq, Value.bool.injEq] at hab
            subst hab
            obtain ⟨n, rfl, h1, h2⟩ := limits_ok hbx hx
            obtain ⟨n', rfl, h3, h4⟩ := limits_ok hby hy
            refine ⟨_, _, _, rfl, rfl, ?_⟩
            simp only at h1 h2 h3 h4
            simp only [cmpAb] at hc
            split at hc
            · cases hc
              rw [beq_eq_false_iff_ne]; omega
            · split at hc
              · cases hc
                rw [beq_eq_false_iff_ne]; omega
              · cases hc
          · cases hab
        · cases hab
      · cases hab
  · split at h
    · rename_i k n k' m _
      split at h
      · rename_i hk
        have hk := of_decide_eq_true hk
        subst hk
        simp only [Option.some.injEq] at h
        cases hx
        cases hy
        exact ⟨_, _, _, rfl, rfl, h⟩
      · cases h
    · cases h
theorem isInt_is {t : TypeId} (h : isInt P t = some true) : ∃ k, P.underlying t = some (.int k) := by
  unfold isInt at h
  split at h
  · exact ⟨_, by assumption⟩
  · simp at h
  · cases h
theorem fieldsOf_ok {t : TypeId} {l : List Field} (h : fieldsOf P t = some l) : P.underlying t = some (.struct l.toArray) := by
  unfold fieldsOf at h
  split at h
  · rename_i fs hd
    simp only [Option.some.injEq] at h
    subst h
    simpa using hd
  · cases h
theorem part_int {t : TypeId} {k : IntKind} {cs : Array Value} {i : Nat} {v : Value} (hd : P.underlying t = some (.int k)) (h : cs[i]? = some v) : (part t cs i).run P w = .ok v w := by
  simp [part, isAgg, run_underlying hd, h]
theorem evEq2_ok {op : BinOp} {t : TypeId} {xo yo : Operand} {x y v : Val} {a b : Value} (h : evEq2 P op t x y = some v) (hx : VR ρ I x a) (hy : VR ρ I y b) :
    ∃ z, (do eqGuard op t xo yo a b; binOp op t a b).run P w = .ok z w ∧ VR ρ I v z := by
  unfold evEq2 at h
  split at h
  · rename_i a1 c1 b1 d1
    split at h
    · rename_i f g hd
      split at h
      · rename_i hc
        simp only [Bool.and_eq_true, beq_iff_eq, bne_iff_ne, ne_eq, Bool.not_eq_true'] at hc
        obtain ⟨⟨⟨⟨⟨⟨⟨hf, hg⟩, nf⟩, ng⟩, of⟩, og⟩, hs⟩, hq⟩ := hc
        have of := Nat.eq_of_beq_eq_true of
        have og := Nat.eq_of_beq_eq_true og
        obtain ⟨kf, hf⟩ := isInt_is hf
        obtain ⟨kg, hg⟩ := isInt_is hg
        have hd := fieldsOf_ok hd
        split at h
        · rename_i p q hp hq'
          cases hx with
          | agg hx =>
            cases hy with
            | agg hy =>
              cases hx with
              | cons x1 hx => cases hx with
                | cons x2 hx => cases hx with
                  | nil => cases hy with
                    | cons y1 hy => cases hy with
                      | cons y2 hy => cases hy with
                        | nil =>
                          obtain ⟨k, n, m, rfl, rfl, e1⟩ := eqAb_ok hp x1 y1
                          obtain ⟨k', n', m', rfl, rfl, e2⟩ := eqAb_ok hq' x2 y2
                          have hfo : P.fieldsOf t = [f, g].toArray := by
                            unfold Program.fieldsOf
                            rw [hd]
                          have hE : (Op.equalIn 10000 t (.agg [Value.int k n, Value.int k' n'].toArray) (.agg [Value.int k m, Value.int k' m'].toArray)).run P w = .ok (p && q) w := by
                            rw [run_equalIn_agg w 9999 t _ _ (by rw [hfo]; exact hd) hs, hfo]
                            have p1 := part_int (P := P) (w := w) (cs := [Value.int k n, Value.int k' n'].toArray) (v := .int k n) (i := 0) hf rfl
                            have p2 := part_int (P := P) (w := w) (cs := [Value.int k m, Value.int k' m'].toArray) (v := .int k m) (i := 0) hf rfl
                            have p3 := part_int (P := P) (w := w) (cs := [Value.int k n, Value.int k' n'].toArray) (v := .int k' n') (i := 1) hg rfl
                            have p4 := part_int (P := P) (w := w) (cs := [Value.int k m, Value.int k' m'].toArray) (v := .int k' m') (i := 1) hg rfl
                            have q1 := run_equalIn_int (P := P) w 9998 f.type k _ n m hf
                            have q2 := run_equalIn_int (P := P) w 9998 g.type k' _ n' m' hg
                            rw [e1] at q1
                            rw [e2] at q2
                            clear e1 e2 hp hq' h x1 x2 y1 y2
                            cases p <;> cases q <;> simp only [Op.eqFields, nf, ng, ne_eq, not_false_eq_true, if_true, of, og, Sem.run_bind, p1, p2, p3, p4, Result.andThen_ok, q1, q2, Bool.not_true, Bool.not_false, Bool.false_eq_true, if_false, Sem.run_pure, Bool.and_true, Bool.and_false]
                          have hG := run_eqGuard_agg (P := P) w op t xo yo [Value.int k n, Value.int k' n'].toArray [Value.int k m, Value.int k' m'].toArray hq
                          cases op <;> simp only [Option.some.injEq, reduceCtorEq] at h <;> subst h
                          · exact ⟨.bool (p && q), by simp only [Sem.run_bind, hG, Result.andThen_ok, run_eql_struct, hE], .sc⟩
                          · exact ⟨.bool !(p && q), by simp only [Sem.run_bind, hG, Result.andThen_ok, run_neq_struct, hE], .sc⟩
        · cases h
      · cases h
    · cases h
  · cases h

theorem evBytes_ok : ∀ {cs : List Val} {l : List Int} {xs : List Value}, evBytes cs = some l → VRs ρ I cs xs → xs = l.map (Value.int .u8)
  | [], l, xs, h, hv => by
    cases hv
    simp only [evBytes, Option.some.injEq] at h
    subst h
    rfl
  | c :: cs, l, xs, h, hv => by
    unfold evBytes at h
    split at h
    · rename_i h'; cases h'
    · rename_i n cs' h'
      simp only [List.cons.injEq] at h'
      obtain ⟨rfl, rfl⟩ := h'
      split at h
      · rename_i r hr
        simp only [Option.some.injEq] at h
        subst h
        cases hv with
        | cons h1 h2 =>
          cases h1
          rw [evBytes_ok hr h2]
          rfl
      · cases h
    · cases h

theorem bytesT_ok {t : TypeId} (h : bytesT P t = true) : ∃ e, P.underlying t = some (.slice e) ∧ P.underlying e = some (.int .u8) := by
  unfold bytesT at h
  split at h
  · rename_i e he
    split at h
    · rename_i h2; exact ⟨e, slice_some he, h2⟩
    · cases h
  · cases h
theorem lenL_eq : ∀ l : List UInt8, lenL l = l.length
  | [] => rfl
  | _ :: l => by
    show Nat.add (lenL l) 1 = _
    rw [lenL_eq l]
    rfl
theorem stringT_ok {t : TypeId} (h : stringT P t = true) : P.underlying t = some .string := by
  unfold stringT at h
  split at h
  · assumption
  · cases h

theorem bytesL_eq : ∀ l : List Int, bytesL l = l.map fun n => UInt8.ofNat n.toNat
  | [] => rfl
  | n :: l => by
    show UInt8.ofNat n.toNat :: bytesL l = _
    rw [bytesL_eq l]
    rfl
theorem pushes (l : List Int) : ∀ r : ByteArray, (l.foldl (fun r n => r.push (UInt8.ofNat n.toNat)) r).data.toList = r.data.toList ++ l.map fun n => UInt8.ofNat n.toNat := by
  induction l with
  | nil => intro r; simp
  | cons n l ih =>
    intro r
    rw [List.foldl_cons, ih]
    simp [ByteArray.push]
theorem packBytes_eq (l : List Int) : packBytes l = l.foldl (fun r n => r.push (UInt8.ofNat n.toNat)) ByteArray.empty := by
  apply ByteArray.ext
  apply Array.ext'
  rw [pushes]
  show bytesL l = _
  rw [bytesL_eq]
  rfl
theorem convert_ok {src dst : TypeId} {x v : Val} {y : Value} (h : evConvert P src dst x s = some (v, s')) (hsr : SR ρ I s.mem w) (hf : Free ρ s s') (hx : VR ρ I x y) :
    ∃ z w', (convert src dst y).run P w = .ok z w' ∧ Post ρ I s s' v z w' := by
  unfold evConvert at h
  split at h
  · rename_i id off len sz cap
    simp only [bind_some, must_some, get_some, ofOpt_some, pure_some, Prod.mk.injEq] at h
    obtain ⟨_, s0, ⟨hck, rfl⟩, b, s1, ⟨hb, hs1⟩, cs, s2, ⟨hc, hs2⟩, l, s3, ⟨hl, hs3⟩, h1, h2⟩ := h
    subst h1 h2 hs3 hs2 hs1
    simp only [Bool.and_eq_true] at hck
    obtain ⟨⟨c1, c2⟩, c3⟩ := hck
    obtain ⟨e, he1, he2⟩ := bytesT_ok c1
    have hd := stringT_ok c2
    have hsz := Nat.eq_of_beq_eq_true c3
    subst hsz
    cases hx with
    | @row _ _ _ _ c _ ow ad g1 g2 g3 g4 =>
      obtain ⟨bb, o, m, ho⟩ := hsr.mem _ _ hb
      rw [g1] at ho
      obtain rfl := Option.some.inj ho
      obtain ⟨g5, g6⟩ := g4 _ _ _ rfl
      obtain ⟨b', hb', cells, elem, lo, hi, hw, hm, hfr, hol, hrs⟩ := hsr.live _ _ _ _ g1
      rw [hb] at hb'
      obtain rfl := Option.some.inj hb'
      obtain ⟨hn, rfl, hlen⟩ := cut_some hc
      have hcells := evBytes_ok hl (hrs.part hn)
      have hload : (loadCells ad len).run P w = .ok (l.map (Value.int .u8)).toArray w := by
        rcases g6 with g6 | g6
        · have h0 : len = 0 := by omega
          subst h0
          simp only [List.take_zero] at hcells
          rw [← hcells]
          rfl
        · subst g6
          rw [loadCells_ok hw (by omega), ← hcells]
      refine ⟨_, w, ?_, .same hsr rfl .sc⟩
      rw [run_convert_bytes_string w src dst e (some ad) len c he1 he2 hd, run_bytesToString w ad len c l hload, packBytes_eq]
  · rename_i str
    simp only [bind_some, must_some, pure_some, Prod.mk.injEq] at h
    obtain ⟨_, s0, ⟨hck, rfl⟩, k, s1, hnew, h1, h2⟩ := h
    subst h1 h2
    simp only [Bool.and_eq_true] at hck
    obtain ⟨e, he1, he2⟩ := bytesT_ok hck.2
    have hd := stringT_ok hck.1
    cases hx
    have hg := grownCap_le (w := w) str.size 0 e
    have hrow : (str.data.toList.map fun b => (.int .u8 b.toNat : Value)) = (bytesRow str (grownCap w str.size 0 e)).toList.take str.size := by
      have h1 : (bytesRow str (grownCap w str.size 0 e)).toList = (str.data.toList.map fun b => (.int .u8 b.toNat : Value)) ++ List.replicate (grownCap w str.size 0 e - str.size) (.int .u8 0) := by
        simp [bytesRow]
      rw [h1, List.take_append_of_le_length (by simp), List.take_of_length_le (by simp)]
    have hsz : (bytesRow str (grownCap w str.size 0 e)).size = grownCap w str.size 0 e := by
      have : str.data.size = str.size := rfl
      simp [bytesRow, this]
      omega
    have hvs : VRs ρ I (str.data.toList.map fun b => (.sc (.int .u8 b.toNat) : Val)) (str.data.toList.map fun b => (.int .u8 b.toNat : Value)) := VRs.map _ _ (fun _ => .sc) _
    have hp := new_ok (w := w.drew) (elem := e) (lo := (bytesRow str (grownCap w str.size 0 e)).size) (hi := (bytesRow str (grownCap w str.size 0 e)).size + 1) (cells := bytesRow str (grownCap w str.size 0 e))
      (v := .row k 0 str.size 1 none) (x := .slice (some ⟨w.heap.size, 0, none⟩) str.size (grownCap w str.size 0 e)) hnew hsr.drew hf (.inl (Nat.le_refl _)) (by rw [hsz]; simp; exact hg)
      (by rw [show (str.data.toList.map fun b => (.sc (.int .u8 b.toNat) : Val)).length = str.size by simp, ← hrow]; exact hvs)
      (fun ρ' h' => .row h' hg (.inl rfl) (fun b o n e' => by cases e'; exact ⟨by omega, .inr rfl⟩))
    exact ⟨_, _, run_bytes_of_string w src dst e str hd he1 he2, hp⟩
  · rename_i k lo hi m r
    simp only [ofOpt_some] at h
    obtain ⟨h, rfl⟩ := h
    split at h
    · rename_i d hs
      unfold evAbConv at h
      split at h
      · rename_i k' k2 lo hi m r hd hx'
        cases hx'
        split at h
        · rename_i hc
          simp only [Option.some.injEq] at h
          subst h
          simp only [Bool.and_eq_true, decide_eq_true_eq] at hc
          cases hx with
          | @ab _ _ _ x _ _ h1 h2 h3 =>
            refine ⟨.int k' x, w, ?_, .same hsr rfl (.ab h1 h2 h3)⟩
            have hw := wrap_id k' x (by omega) (by omega)
            unfold convert
            simp only [Sem.run_bind, underlying_ok hs, Result.andThen, underlying_ok hd]
            cases d <;> simp [Conv.intToInt, hw]
        · cases h
      · cases h
    · cases h
  · simp only [fail_some] at h

/-- What the run of an operation leads to: a value and a world, without a panic. -/
def Leads (P : Program) (R : Value → World → Prop) : Result Next → Prop
  | .ok (.value v) w' => R v w'
  | .ok .skip w' => R undef w'
  | .ok (.enter f args) w' => Calls P f args w' fun e w'' => ∃ v, e = .returned v ∧ R v w''
  | _ => False

theorem Leads.upon {o : Oper} {a : Act} {K : Act → World → Prop} {Q : Exit → Act → World → Prop} {R : Value → World → Prop} {r : Result Next}
    (h : Leads P R r) (hK : ∀ v w', R v w' → K (a.put o.dst v) w') : o.upon P a K Q r := by
  unfold Leads at h
  split at h
  · exact hK _ _ h
  · exact hK _ _ h
  · refine Calls.mono h ?_
    rintro e w'' ⟨v, rfl, hR⟩
    exact hK _ _ hR
  · exact h.elim

/-- What is asked of a way to call: it does as the function does. -/
def CallOK (P : Program) (call : CallF) : Prop :=
  ∀ f args s0 v s0', call f args s0 = some (v, s0') → ∀ s s', call f args s = some (v, s') → Pair s0 s0' s s' → (∃ fn, P.funcs[f]? = some fn ∧ fn.body.isSome = true ∧ (fn.name == "runtime.NumGoroutine") = false) ∧
    ∀ ρ I w xs, SR ρ I s.mem w → Free ρ s s' → VRs ρ I args xs → Calls P f xs.toArray w fun e w' => ∃ x, e = .returned x ∧ Post ρ I s s' v x w'

theorem callFunc_run {f : FuncId} {fn : Func} {args : Array Value} (hf : P.funcs[f]? = some fn) (hb : fn.body.isSome = true) (hn : (fn.name == "runtime.NumGoroutine") = false) : (callFunc f args).run P w = .ok (.enter f args) w := by
  have hb' : fn.body ≠ none := by intro h; rw [h] at hb; cases hb
  have hn' : fn.name ≠ "runtime.NumGoroutine" := by simpa using hn
  simp [callFunc, hf, hn', hb']

theorem VRs.operands {rE : Operand → Val} {rC : Operand → Value} (hr : ∀ x, VR ρ I (rE x) (rC x)) (l : List Operand) : VRs ρ I (l.map rE) (l.map rC) := VRs.map rE rC hr l
theorem OR.map {rE : Operand → Val} {rC : Operand → Value} (hr : ∀ x, VR ρ I (rE x) (rC x)) (x : Option Operand) : OR ρ I (x.map rE) (x.map rC) := by
  cases x with
  | none => exact .none
  | some x => exact .some (hr x)

theorem leads_value {R : Value → World → Prop} {e : Sem Value} {x : Value} {w' : World} (h : e.run P w = .ok x w') (hR : R x w') : Leads P R ((do pure (Next.value (← e)) : Sem Next).run P w) := by
  simp only [Sem.run_bind, h, Result.andThen, Sem.run_pure]
  exact hR

theorem call_ok {call : CallF} (hc : CallOK P call) {rE : Operand → Val} {rC : Operand → Value} {o : Oper} {c : Call} {v : Val} (ho : o.op = .call c) (h : evCall P call rE o c s = some (v, s')) {s0 s0' : St} (hI : evCall P call rE o c s0 = some (v, s0')) (hP : Pair s0 s0' s s') (hsr : SR ρ I s.mem w) (hf : Free ρ s s')
    (hr : ∀ x, VR ρ I (rE x) (rC x)) : Leads P (Post ρ I s s' v) ((execOp rC o).run P w) := by
  unfold evCall at h hI
  cases hcal : c.callee with
  | value f =>
    rw [hcal] at h hI
    simp only at h hI
    have hv := hr f
    generalize hfv : rE f = fv at h hI hv
    split at h
    · rename_i g a b
      generalize hfx : rC f = fx at hv
      cases hv with
      | @fn _ _ _ a' b' h1 h2 =>
        obtain ⟨⟨fn, hfn, hbody, hname⟩, hcall⟩ := hc _ _ _ _ _ hI _ _ h hP
        have hargs : VRs ρ I (a ++ (c.args.toList.map rE ++ b)) (a' ++ (c.args.toList.map rC ++ b')) := h1.append ((VRs.operands hr _).append h2)
        have := hcall ρ I w _ hsr hf hargs
        have hrun : (execOp rC o).run P w = .ok (.enter g (a' ++ (c.args.toList.map rC ++ b')).toArray) w := by
          simp only [execOp, ho, resolve, hcal, Deferred.ofValue, hfx, invoke, Sem.run_bind, Sem.run_pure, Result.andThen, callFunc_run hfn hbody hname]
          congr 2
          apply Array.ext'
          simp
        rw [hrun]
        exact this
    · simp only [fail_some] at h
  | builtin b =>
    rw [hcal] at h
    simp only at h
    have hrun : ∀ e : Sem Value, builtin b c.argTypes o.type (c.args.map fun | .const _ => true | _ => false) (c.args.map rC) = (do pure (Next.value (← e))) → execOp rC o = (do pure (Next.value (← e))) := by
      intro e he
      simp only [execOp, ho, resolve, hcal, pure_bind, invoke]
      exact he
    have hsl : ∀ cs b', o.op ≠ .select cs b' := by rw [ho]; intro _ _ e; cases e
    have hop := VRs.operands hr c.args.toList
    have harr : ∀ l : List Value, c.args.toList.map rC = l → c.args.map rC = l.toArray := by
      intro l e
      apply Array.ext'
      rw [← e]
      simp
    have row : ∀ {t}, rowArg P c = some t → ∃ t', c.argTypes[0]? = some t' ∧ P.underlying t' = some (.slice t) := by
      intro t ht
      unfold rowArg at ht
      split at ht
      · rename_i t' h'
        exact ⟨t', h', slice_some ht⟩
      · cases ht
    generalize hl : c.args.toList.map rE = lE at h
    split at h
    · rename_i q1 q2 q3 q4 q5 q6
      simp only [bind_some, ofOpt_some, pure_some, Prod.mk.injEq] at h
      obtain ⟨t, s1, ⟨ht, rfl⟩, rfl, rfl⟩ := h
      obtain ⟨t', h0, hd⟩ := row ht
      rw [hl] at hop
      generalize hm : c.args.toList.map rC = lc at hop
      cases hop with
      | cons g1 g2 =>
        cases g2
        cases g1
        rw [hrun (Builtin.len_ c.argTypes o.type (c.args.map rC)) rfl, harr _ hm]
        exact leads_value (x := goInt _) (by simp [Builtin.len_, h0, run_underlying hd]) (.same hsr rfl .sc)
    · rename_i q1 q2
      simp only [bind_some, ofOpt_some, pure_some, Prod.mk.injEq] at h
      obtain ⟨t, s1, ⟨ht, rfl⟩, rfl, rfl⟩ := h
      obtain ⟨t', h0, hd⟩ := row ht
      rw [hl] at hop
      generalize hm : c.args.toList.map rC = lc at hop
      cases hop with
      | cons g1 g2 =>
        cases g2
        rw [hrun (Builtin.len_ c.argTypes o.type (c.args.map rC)) rfl, harr _ hm]
        cases g1 with
        | froNil => exact leads_value (x := goInt _) (by simp [Builtin.len_, h0, run_underlying hd]) (.same hsr rfl .sc)
        | fro _ _ h3 _ =>
          subst h3
          exact leads_value (x := goInt _) (by simp [Builtin.len_, h0, run_underlying hd]) (.same hsr rfl .sc)
    · rename_i q0 q1
      rw [ofOpt_some] at h
      obtain ⟨h, rfl⟩ := h
      split at h
      · rename_i t' h0
        split at h
        · rename_i hst
          obtain rfl := Option.some.inj h
          have hd := stringT_ok hst
          rw [hl] at hop
          generalize hm : c.args.toList.map rC = lc at hop
          cases hop with
          | cons g1 g2 =>
            cases g2
            cases g1
            rw [hrun (Builtin.len_ c.argTypes o.type (c.args.map rC)) rfl, harr _ hm]
            refine leads_value (x := goInt _) (by simp [Builtin.len_, h0, run_underlying hd]; rfl) (.same hsr rfl ?_)
            rw [lenL_eq]
            exact .sc
        · cases h
      · cases h
    · rename_i q1
      simp only [bind_some, ofOpt_some, pure_some, Prod.mk.injEq] at h
      obtain ⟨t, s1, ⟨ht, rfl⟩, rfl, rfl⟩ := h
      obtain ⟨t', h0, hd⟩ := row ht
      rw [hl] at hop
      generalize hm : c.args.toList.map rC = lc at hop
      cases hop with
      | cons g1 g2 =>
        cases g2
        cases g1
        rw [hrun (Builtin.len_ c.argTypes o.type (c.args.map rC)) rfl, harr _ hm]
        exact leads_value (x := goInt _) (by simp [Builtin.len_, h0, run_underlying hd]) (.same hsr rfl .sc)
    · rename_i q1 q2 q3 q4 q5 q6
      simp only [bind_some, ofOpt_some, pure_some, Prod.mk.injEq] at h
      obtain ⟨t, s1, ⟨ht, rfl⟩, rfl, rfl⟩ := h
      obtain ⟨t', h0, hd⟩ := row ht
      rw [hl] at hop
      generalize hm : c.args.toList.map rC = lc at hop
      cases hop with
      | cons g1 g2 =>
        cases g2
        cases g1 with
        | row _ _ h3 _ =>
          have h3 := (Option.some.inj (h3.resolve_left (by simp)))
          subst h3
          rw [hrun (Builtin.cap_ c.argTypes o.type (c.args.map rC)) rfl, harr _ hm]
          exact leads_value (x := goInt _) (by simp [Builtin.cap_, h0, run_underlying hd]) (.same hsr rfl .sc)
    · rename_i q1 xa xb
      simp only [bind_some, ofOpt_some] at h
      obtain ⟨t, s1, ⟨ht, rfl⟩, u, s2, ⟨hu, rfl⟩, h⟩ := h
      rw [hl] at hop
      generalize hm : c.args.toList.map rC = lc at hop
      cases hop with
      | cons g1 g2 =>
        cases g2 with
        | cons g2 g3 =>
          cases g3
          rw [hrun (Builtin.append_ c.argTypes o.type (c.args.map rC)) rfl, harr _ hm]
          obtain ⟨r, w', h1, h2⟩ := append_ok (P := P) (ty := o.type) h hsr hf ht hu g1 g2
          exact leads_value h1 h2
    · rw [ofOpt_some] at h
      obtain ⟨h, rfl⟩ := h
      obtain ⟨x, h1, h2⟩ := scalar_ok (P := P) (w := w) h hr hsl
      rw [h1]
      exact .same hsr rfl h2
  | invoke r m => rw [hcal] at h; simp only [fail_some] at h
end
end Go.Proofs.Ytjgdcifbhmjinaa.Ev
