/- Every operation that the evaluator does, the model does. -/
import Derived.Test.YtjgdcifbhmjinaaEvS
namespace Go.Proofs.Ytjgdcifbhmjinaa.Ev
open Go

section
variable {P : Program} {ρ : Rho} {I : Im} {s s' : St} {w : World}

theorem parts_ok {rE : Operand → Val} {rC : Operand → Value} (hr : ∀ x, VR ρ I (rE x) (rC x)) (ps : Array (Nat × Operand)) :
    (ps.toList.map fun p => (p.1, rE p.2)).map (·.1) = (ps.map fun (i, x) => (i, rC x)).toList.map (·.1) ∧ VRs ρ I ((ps.toList.map fun p => (p.1, rE p.2)).map (·.2)) ((ps.map fun (i, x) => (i, rC x)).toList.map (·.2)) := by
  rw [Array.toList_map]
  refine ⟨by simp [Function.comp_def], ?_⟩
  rw [List.map_map, List.map_map]
  exact VRs.map _ _ (fun p : Nat × Operand => hr p.2) _

theorem leads_unit {R : Value → World → Prop} {e : Sem Unit} {w' : World} (h : e.run P w = .ok () w') (hR : R undef w') : Leads P R ((do e; pure Next.skip : Sem Next).run P w) := by
  simp only [Sem.run_bind, h, Result.andThen, Sem.run_pure]
  exact hR

theorem scalarM_ok {rE : Operand → Val} {rC : Operand → Value} {o : Oper} {v : Val} (h : ofOpt (evScalar P rE o) s = some (v, s')) (hr : ∀ x, VR ρ I (rE x) (rC x)) (hs : ∀ cs b, o.op ≠ .select cs b) (hsr : SR ρ I s.mem w) :
    Leads P (Post ρ I s s' v) ((execOp rC o).run P w) := by
  rw [ofOpt_some] at h
  obtain ⟨h, rfl⟩ := h
  obtain ⟨x, h1, h2⟩ := scalar_ok (P := P) (w := w) h hr hs
  rw [h1]
  exact .same hsr rfl h2

theorem dropL_eq : ∀ (n : Nat) (l : List UInt8), dropL n l = l.drop n
  | 0, l => rfl
  | n + 1, [] => rfl
  | n + 1, b :: l => by
    show dropL n l = _
    rw [dropL_eq n l, List.drop_succ_cons]
theorem takeL_eq : ∀ (n : Nat) (l : List UInt8), takeL n l = l.take n
  | 0, l => by rw [List.take_zero]; rfl
  | n + 1, [] => rfl
  | n + 1, b :: l => by
    show b :: takeL n l = _
    rw [takeL_eq n l, List.take_succ_cons]
theorem nthL_eq : ∀ (n : Nat) (l : List UInt8), nthL n l = l[n]?
  | 0, [] => rfl
  | 0, b :: l => rfl
  | n + 1, [] => rfl
  | n + 1, b :: l => by
    show nthL n l = _
    rw [nthL_eq n l, List.getElem?_cons_succ]
theorem strSlice_ok {t : TypeId} {v : Value} {r : Val} {lo hi mx : Option Val} {lo' hi' mx' : Option Value} (h : strSlice P t v lo hi mx = some r)
    (r1 : OR ρ I lo lo') (r2 : OR ρ I hi hi') (r3 : OR ρ I mx mx') : ∃ z, (Instr.sliceAt t v lo' hi' mx').run P w = .ok z w ∧ VR ρ I r z := by
  unfold strSlice at h
  split at h
  · rename_i str
    split at h
    · rename_i l hh e1 e2 e3
      split at h
      · rename_i hck
        obtain rfl := Option.some.inj h
        rw [lenL_eq] at hck
        simp only [Bool.and_eq_true] at hck
        have c1 := Nat.le_of_ble_eq_true hck.1
        have c2 := Nat.le_of_ble_eq_true hck.2
        have hd := stringT_ok e1
        cases r3
        have hb := bounds_ok (P := P) (w := w) (isS := false) (len := str.size) (c := str.size) (mx := none) (m := none) e2 e3 rfl r1 r2 .none c1 (by simpa using c2) (by simp) (by simp)
        refine ⟨.string (str.extract (l.getD 0) (hh.getD str.size)), ?_, ?_⟩
        · simp only [Instr.sliceAt, Sem.run_bind, underlying_ok hd, Result.andThen, Instr.slice]
          simp [hb, Result.andThen]
        · have e : ∀ q : List UInt8, (str.extract (l.getD 0) (hh.getD str.size)).data.toList = q → VR ρ I (.sc (.string ⟨⟨q⟩⟩)) (.string (str.extract (l.getD 0) (hh.getD str.size))) := by
            intro q hq
            subst hq
            exact .sc
          apply e
          rw [ByteArray.data_extract, Array.toList_extract, List.extract_eq_take_drop]
          cases hh with
          | none =>
            show _ = dropL _ _
            rw [dropL_eq, Option.getD_none]
            apply List.take_of_length_le
            rw [List.length_drop]
            exact Nat.le_refl _
          | some h =>
            show _ = takeL _ (dropL _ _)
            rw [takeL_eq, dropL_eq, Option.getD_some]
      · cases h
    · cases h
  · cases h
theorem strIndex_ok {t : TypeId} {v : Value} {i r : Val} {i' : Value} (h : strIndex P t v i = some r) (hi : VR ρ I i i') : ∃ z, (Instr.index t v i').run P w = .ok z w ∧ VR ρ I r z := by
  unfold strIndex at h
  split at h
  · rename_i str n e1 e2
    split at h
    · rename_i b hb
      obtain rfl := Option.some.inj h
      obtain ⟨k, rfl⟩ := natOf_some e2
      cases hi
      rw [nthL_eq] at hb
      refine ⟨.int .u8 b.toNat, ?_, .sc⟩
      have hb' : str[n]? = some b := by
        obtain ⟨hlt, e⟩ := List.getElem?_eq_some_iff.1 hb
        have hlt' : n < str.size := hlt
        rw [getElem?_pos str n hlt', ← e]
        rfl
      simp [Instr.index, asIntOf, Sem.run_bind, Sem.run_pure, Result.andThen, run_underlying (stringT_ok e1), hb']
    · cases h
  · cases h

theorem evOp_ok {call : CallF} (hc : CallOK P call) {rE : Operand → Val} {rC : Operand → Value} {o : Oper} {v : Val} (h : evOp P call rE o s = some (v, s')) {s0 s0' : St} (h0 : evOp P call rE o s0 = some (v, s0')) (hP : Pair s0 s0' s s') (hsr : SR ρ I s.mem w) (hf : Free ρ s s')
    (hr : ∀ x, VR ρ I (rE x) (rC x)) : Leads P (Post ρ I s s' v) ((execOp rC o).run P w) := by
  unfold evOp at h
  cases hop : o.op with
  | move x =>
    rw [hop] at h
    simp only [pure_some, Prod.mk.injEq] at h
    obtain ⟨rfl, rfl⟩ := h
    simp only [execOp, hop]
    exact .same hsr rfl (hr x)
  | assign x =>
    rw [hop] at h
    simp only [pure_some, Prod.mk.injEq] at h
    obtain ⟨rfl, rfl⟩ := h
    simp only [execOp, hop]
    exact .same hsr rfl (hr x)
  | pick c a b =>
    rw [hop] at h
    simp only at h
    have hv := hr c
    generalize hc' : rE c = cv at h hv
    split at h
    · generalize hx : rC c = cx at hv
      cases hv
      simp only [pure_some, Prod.mk.injEq] at h
      obtain ⟨rfl, rfl⟩ := h
      simp only [execOp, hop, hx, asBool, Sem.run_bind, Sem.run_pure, Result.andThen, if_true]
      exact .same hsr rfl (hr a)
    · generalize hx : rC c = cx at hv
      cases hv
      simp only [pure_some, Prod.mk.injEq] at h
      obtain ⟨rfl, rfl⟩ := h
      simp only [execOp, hop, hx, asBool, Sem.run_bind, Sem.run_pure, Result.andThen, Bool.false_eq_true, if_false]
      exact .same hsr rfl (hr b)
    · simp only [fail_some] at h
  | alloc t =>
    rw [hop] at h
    simp only [bind_some, ofOpt_some] at h
    obtain ⟨z, s1, ⟨hz, rfl⟩, h⟩ := h
    obtain ⟨x, w', h1, h2⟩ := alloc_ok (P := P) hz h hsr hf
    simp only [execOp, hop]
    exact leads_value h1 h2
  | box t x =>
    rw [hop] at h
    simp only at h
    obtain ⟨x', w', h1, h2⟩ := box_ok (P := P) (t := t) h (hr x) hsr hf
    simp only [execOp, hop]
    exact leads_value h1 h2
  | build t ps =>
    rw [hop] at h
    simp only [ofOpt_some] at h
    obtain ⟨h, rfl⟩ := h
    obtain ⟨p1, p2⟩ := parts_ok hr ps
    obtain ⟨x, h1, h2⟩ := build_ok (P := P) (w := w) h p1 p2
    simp only [execOp, hop]
    exact leads_value h1 (.same hsr rfl h2)
  | buildSlice t len ps =>
    rw [hop] at h
    simp only at h
    obtain ⟨p1, p2⟩ := parts_ok hr ps
    obtain ⟨x, w', h1, h2⟩ := buildSlice_ok (P := P) h hsr hf p1 p2
    simp only [execOp, hop]
    exact leads_value h1 h2
  | load t a =>
    rw [hop] at h
    simp only at h
    obtain ⟨y, h1, h2, h3, h4⟩ := load_ok (P := P) h hsr (hr a)
    simp only [execOp, hop]
    exact leads_value h1 (.same hsr h3 h2)
  | store t a x =>
    rw [hop] at h
    simp only at h
    obtain ⟨w', h1, h2⟩ := store_ok (P := P) h hsr (hr a) (hr x)
    simp only [execOp, hop]
    exact leads_unit h1 h2
  | nilCheck x =>
    rw [hop] at h
    simp only at h
    have hv := hr x
    generalize hc' : rE x = cv at h hv
    split at h
    · generalize hx : rC x = cx at hv
      have hv' := hv
      cases hv
      simp only [pure_some, Prod.mk.injEq] at h
      obtain ⟨rfl, rfl⟩ := h
      simp only [execOp, hop, hx]
      exact .same hsr rfl hv'
    · generalize hx : rC x = cx at hv
      have hv' := hv
      cases hv
      simp only [pure_some, Prod.mk.injEq] at h
      obtain ⟨rfl, rfl⟩ := h
      simp only [execOp, hop, hx]
      exact .same hsr rfl hv'
    · generalize hx : rC x = cx at hv
      have hv' := hv
      cases hv
      simp only [pure_some, Prod.mk.injEq] at h
      obtain ⟨rfl, rfl⟩ := h
      simp only [execOp, hop, hx]
      exact .same hsr rfl hv'
    · generalize hx : rC x = cx at hv
      have hv' := hv
      cases hv
      simp only [pure_some, Prod.mk.injEq] at h
      obtain ⟨rfl, rfl⟩ := h
      simp only [execOp, hop, hx]
      exact .same hsr rfl hv'
    · simp only [fail_some] at h
  | makeInterface t x =>
    rw [hop] at h
    simp only at h
    generalize hd : P.underlying t = ud at h
    split at h
    · simp only [fail_some] at h
    · rename_i d hni
      simp only [pure_some, Prod.mk.injEq] at h
      obtain ⟨rfl, rfl⟩ := h
      simp only [execOp, hop]
      refine leads_value (x := .iface t (rC x)) ?_ (.same hsr rfl (.ifc (hr x)))
      cases d <;> first | (rename_i m; exact absurd rfl (hni m)) | simp [Instr.makeInterface, run_underlying hd]
    · simp only [fail_some] at h
  | makeFunc f first cap =>
    rw [hop] at h
    simp only [pure_some, Prod.mk.injEq] at h
    obtain ⟨rfl, rfl⟩ := h
    simp only [execOp, hop]
    refine leads_value (x := .func f (first.map rC) (cap.map rC)) rfl (.same hsr rfl ?_)
    have := VR.fn (f := f) (VRs.operands hr first.toList) (VRs.operands hr cap.toList)
    have e : ∀ a : Array Operand, (a.toList.map rC).toArray = a.map rC := by intro a; apply Array.ext'; simp
    rwa [e, e] at this
  | makeSlice t l c =>
    rw [hop] at h
    simp only at h
    obtain ⟨x, w', h1, h2⟩ := makeSlice_ok (P := P) h hsr hf (hr l) (hr c)
    simp only [execOp, hop]
    exact leads_value h1 h2
  | slice t x lo hi mx =>
    rw [hop] at h
    simp only at h
    have hsl : ∀ cs b', o.op ≠ .select cs b' := by rw [hop]; intro _ _ e; cases e
    have hv := hr x
    generalize hc' : rE x = cv at h hv
    split at h
    · rename_i vv
      rw [ofOpt_some] at h
      obtain ⟨h, rfl⟩ := h
      split at h
      · rename_i r hsx
        obtain rfl := Option.some.inj h
        generalize hx : rC x = cx at hv
        cases hv
        obtain ⟨z, h1, h2⟩ := strSlice_ok (P := P) (w := w) hsx (OR.map hr lo) (OR.map hr hi) (OR.map hr mx)
        simp only [execOp, hop, hx]
        exact leads_value h1 (.same hsr rfl h2)
      · exact scalarM_ok (ofOpt_some.2 ⟨h, rfl⟩) hr hsl hsr
    · obtain ⟨z, h1, h2, h3, h4⟩ := evSlice_ok (P := P) h hsr hv (OR.map hr lo) (OR.map hr hi) (OR.map hr mx)
      simp only [execOp, hop]
      exact leads_value h1 (.same hsr h3 h2)
  | fieldAddr t x f =>
    rw [hop] at h
    simp only [ofOpt_some] at h
    obtain ⟨h, rfl⟩ := h
    obtain ⟨z, h1, h2⟩ := fieldAddr_ok (P := P) (w := w) h (hr x)
    simp only [execOp, hop]
    exact leads_value h1 (.same hsr rfl h2)
  | field t x f =>
    rw [hop] at h
    simp only [ofOpt_some] at h
    obtain ⟨h, rfl⟩ := h
    obtain ⟨z, h1, h2⟩ := field_ok (P := P) (w := w) h (hr x)
    simp only [execOp, hop]
    exact leads_value h1 (.same hsr rfl h2)
  | indexAddr t x i =>
    rw [hop] at h
    simp only [ofOpt_some] at h
    obtain ⟨h, rfl⟩ := h
    obtain ⟨z, h1, h2⟩ := indexAddr_ok (P := P) (w := w) h (hr x) (hr i)
    simp only [execOp, hop]
    exact leads_value h1 (.same hsr rfl h2)
  | index t x i =>
    rw [hop] at h
    simp only at h
    have hsl : ∀ cs b', o.op ≠ .select cs b' := by rw [hop]; intro _ _ e; cases e
    have hv := hr x
    generalize hc' : rE x = cv at h hv
    split at h
    · rw [ofOpt_some] at h
      obtain ⟨h, rfl⟩ := h
      obtain ⟨z, h1, h2⟩ := index_ok (P := P) (w := w) h hv (hr i)
      simp only [execOp, hop]
      exact leads_value h1 (.same hsr rfl h2)
    · rename_i vv
      rw [ofOpt_some] at h
      obtain ⟨h, rfl⟩ := h
      split at h
      · rename_i r hsx
        obtain rfl := Option.some.inj h
        generalize hx : rC x = cx at hv
        cases hv
        obtain ⟨z, h1, h2⟩ := strIndex_ok (P := P) (w := w) hsx (hr i)
        simp only [execOp, hop, hx]
        exact leads_value h1 (.same hsr rfl h2)
      · exact scalarM_ok (ofOpt_some.2 ⟨h, rfl⟩) hr hsl hsr
    · exact scalarM_ok h hr hsl hsr
  | extract x i =>
    rw [hop] at h
    simp only at h
    have hv := hr x
    generalize hc' : rE x = cv at h hv
    split at h
    · generalize hx : rC x = cx at hv
      cases hv with
      | tup hvs =>
        rw [ofOpt_some] at h
        obtain ⟨h, rfl⟩ := h
        obtain ⟨y, hy, hvr⟩ := hvs.get h
        simp only [execOp, hop, hx]
        exact leads_value (x := y) (by simp [Instr.extract, hy]) (.same hsr rfl hvr)
    · simp only [fail_some] at h
  | typeAssert x xt t ok =>
    rw [hop] at h
    simp only at h
    have hsl : ∀ cs b', o.op ≠ .select cs b' := by rw [hop]; intro _ _ e; cases e
    have hv := hr x
    generalize hc' : rE x = cv at h hv
    split at h
    · rename_i tt vv
      cases ha : evAssert P (.ifc tt vv) t ok with
      | some u =>
        rw [ha] at h
        simp only [ofOpt_some, Option.some.injEq] at h
        obtain ⟨rfl, rfl⟩ := h
        obtain ⟨z, h1, h2⟩ := assert_ok (P := P) (w := w) (xt := xt) ha hv
        simp only [execOp, hop]
        exact leads_value h1 (.same hsr rfl h2)
      | none =>
        rw [ha] at h
        exact scalarM_ok h hr hsl hsr
    · exact scalarM_ok h hr hsl hsr
  | binOp op t x y yt =>
    rw [hop] at h
    simp only at h
    have hsl : ∀ cs b', o.op ≠ .select cs b' := by rw [hop]; intro _ _ e; cases e
    cases he : evEq P op t (rE x) (rE y) with
    | some u =>
      rw [he] at h
      simp only [pure_some, Prod.mk.injEq] at h
      obtain ⟨rfl, rfl⟩ := h
      obtain ⟨z, h1, h2⟩ := evEq_ok (P := P) (w := w) (xo := x) (yo := y) he (hr x) (hr y)
      simp only [execOp, hop]
      exact leads_value h1 (.same hsr rfl h2)
    | none =>
      rw [he] at h
      cases hab : evAb op (rE x) (rE y) with
      | some u =>
        rw [hab] at h
        simp only [pure_some, Prod.mk.injEq] at h
        obtain ⟨rfl, rfl⟩ := h
        obtain ⟨z, h1, h2⟩ := evAb_ok (P := P) (w := w) (t := t) (xo := x) (yo := y) hab (hr x) (hr y)
        simp only [execOp, hop]
        exact leads_value h1 (.same hsr rfl h2)
      | none =>
        rw [hab] at h
        simp only at h
        cases he2 : evEq2 P op t (rE x) (rE y) with
        | some u =>
          rw [he2] at h
          simp only [pure_some, Prod.mk.injEq] at h
          obtain ⟨rfl, rfl⟩ := h
          obtain ⟨z, h1, h2⟩ := evEq2_ok (P := P) (w := w) (t := t) (xo := x) (yo := y) he2 (hr x) (hr y)
          simp only [execOp, hop]
          exact leads_value h1 (.same hsr rfl h2)
        | none =>
          rw [he2] at h
          exact scalarM_ok h hr hsl hsr
  | convert src dst x =>
    rw [hop] at h
    have hsl : ∀ cs b', o.op ≠ .select cs b' := by rw [hop]; intro _ _ e; cases e
    simp only at h
    cases hev : evScalar P rE o with
    | some u =>
      rw [hev] at h
      exact scalarM_ok (by rw [hev]; exact h) hr hsl hsr
    | none =>
      rw [hev] at h
      obtain ⟨z, w', h1, h2⟩ := convert_ok (P := P) h hsr hf (hr x)
      simp only [execOp, hop]
      exact leads_value h1 h2
  | unOp op t x =>
    rw [hop] at h
    have hsl : ∀ cs b', o.op ≠ .select cs b' := by rw [hop]; intro _ _ e; cases e
    exact scalarM_ok h hr hsl hsr
  | call c =>
    rw [hop] at h
    unfold evOp at h0
    rw [hop] at h0
    exact call_ok hc hop h h0 hP hsr hf hr
  | _ => rw [hop] at h; simp only [fail_some] at h
end
end Go.Proofs.Ytjgdcifbhmjinaa.Ev
