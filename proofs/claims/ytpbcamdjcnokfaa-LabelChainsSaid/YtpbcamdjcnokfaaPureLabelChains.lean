/- A row of labels rises just if each part of it does, wherever it is cut; what rises flows from its first to its last, which is another. For every row and every cut. -/
import Derived.Test.YtpbcamdjcnokfaaPx7
import Derived.Test.YtpbcamdjcnokfaaLab
namespace Go.Proofs.Ytpbcamdjcnokfaa.Pure
open Go Go.RowKit Go.Proofs.Ytpbcamdjcnokfaa Go.Proofs.Ytpbcamdjcnokfaa.P Go.Proofs.Ytpbcamdjcnokfaa.Bits64 Go.Proofs.Ytpbcamdjcnokfaa.Lab Go.Proofs.YtpbcamdjcnokfaaW.PrintWords Go.Proofs.YtpbcamdjcnokfaaW.PrintLast Go.Proofs.YtpbcamdjcnokfaaW.PrintMore

/-- As Option.bind_some, told so that the kernel is handed a step, not a computation. -/
theorem bind_some' {α β : Type} (a : α) (f : α → Option β) : (some a).bind f = f a := by simp

theorem rise_cut : ∀ (l : List S24) (i : Nat), i < l.length → riseB l = (riseB (l.take (i + 1)) && riseB (l.drop i))
  | [], i, h => by simp at h
  | x :: l, 0, _ => by simp [riseB]
  | [x], i + 1, h => by simp at h
  | x :: y :: l, i + 1, h => by
    have ih := rise_cut (y :: l) i (by simpa using h)
    have e : (x :: y :: l).take (i + 1 + 1) = x :: y :: l.take i := rfl
    have e' : (y :: l).take (i + 1) = y :: l.take i := rfl
    rw [e, show (x :: y :: l).drop (i + 1) = (y :: l).drop i from rfl]
    rw [e'] at ih
    simp only [riseB]
    rw [ih]
    simp only [Bool.and_assoc]

theorem rise_ends : ∀ (l : List S24) (x y : S24), (∀ z ∈ x :: y :: l, wf24 z) → riseB (x :: y :: l) = true →
    ∃ z, (x :: y :: l).getLast? = some z ∧ leqB x.f0 x.f1 z.f0 z.f1 = true ∧ sameB x z = false := by
  intro l
  induction l with
  | nil =>
    intro x y hw h
    simp [riseB] at h
    exact ⟨y, rfl, h.2, h.1⟩
  | cons z l ih =>
    intro x y hw h
    rw [riseB, Bool.and_eq_true, Bool.and_eq_true] at h
    obtain ⟨⟨h1, h2⟩, h3⟩ := h
    obtain ⟨t, ht, hl, hs⟩ := ih y z (fun z hz => hw z (List.mem_cons_of_mem _ hz)) h3
    refine ⟨t, by simpa using ht, ?_, ?_⟩
    · obtain ⟨p, q⟩ := (leqB_iff ..).1 h2
      obtain ⟨p', q'⟩ := (leqB_iff ..).1 hl
      exact (leqB_iff ..).2 ⟨Int.le_trans p p', q.trans q'⟩
    · cases hx : sameB x t with
      | false => rfl
      | true =>
        exfalso
        simp [sameB] at hx
        obtain ⟨p, q⟩ := (leqB_iff ..).1 h2
        obtain ⟨p', q'⟩ := (leqB_iff ..).1 hl
        rw [← hx.1, ← hx.2] at *
        have e0 : y.f0 = x.f0 := Int.le_antisymm p' p
        have wx := hw x List.mem_cons_self
        have wy := hw y (by simp)
        have e1 : y.f1 = x.f1 := by rw [← I_B wy.2.1 wy.2.2, ← I_B wx.2.1 wx.2.2, q'.antisymm q]
        simp [sameB, e0, e1] at h1

theorem LabelChains : ∀ (x0 : List (S24)) (x1 : Int), (x0.length ≤ 9223372036854775807 ∧ ∀ y ∈ x0, wf24 y) → (0 ≤ x1 ∧ x1 ≤ 255) → ∃ k, tontinelaw1_LabelChains.f k x0 x1 = some true := by
  intro l a hl ha
  refine ⟨l.length + 4, ?_⟩
  unfold tontinelaw1_LabelChains.f
  rw [known_f _ (by omega)]
  simp only [bind_some', if_true]
  by_cases h2 : (l.length : Int) < 2
  · rw [if_pos h2]; simp [tontinelaw1_LabelChains.j0]
  rw [if_neg h2]
  by_cases h12 : (l.length : Int) > 12
  · rw [decide_eq_true h12]; simp [tontinelaw1_LabelChains.j0]
  rw [decide_eq_false h12]
  have hw : wrap64 a = a := wrap_in (by omega) (by omega)
  have ht : Int.tmod a (l.length : Int) = ((a.toNat % l.length : Nat) : Int) := by
    rw [Int.tmod_eq_emod_of_nonneg ha.1, Int.natCast_emod, Int.toNat_of_nonneg ha.1]
  obtain ⟨i, hi⟩ : ∃ i, a.toNat % l.length = i := ⟨_, rfl⟩
  have hil : i < l.length := by rw [← hi]; exact Nat.mod_lt _ (by omega)
  rw [show l.length + 4 = (l.length + 3) + 1 from rfl]
  simp only [tontinelaw1_LabelChains.j0]
  rw [if_neg (by simp), if_neg (by omega), hw, ht, hi]
  rw [chain_f l _ (by omega)]
  have w1 : wrap64 ((i : Int) + 1) = ((i + 1 : Nat) : Int) := by rw [wrap_in (by omega) (by omega)]; omega
  have w2 : wrap64 ((l.length : Int) - 1) = ((l.length - 1 : Nat) : Int) := by rw [wrap_in (by omega) (by omega)]; omega
  simp only [bind_some']
  rw [w1, w2, if_pos (by omega), if_pos (by omega)]
  have t1 : (((i + 1 : Nat) : Int)).toNat = i + 1 := by omega
  have t2 : ((i : Int)).toNat = i := by omega
  rw [t1, t2, chain_f (l.take (i + 1)) _ (by simp; omega), chain_f (l.drop i) _ (by simp; omega)]
  simp only [bind_some']
  have hc := rise_cut l i hil
  rw [if_pos (show (0 : Int) < (l.length : Int) by omega)]
  rw [if_pos (show (0 : Int) ≤ ((l.length - 1 : Nat) : Int) by omega), if_pos (show ((l.length - 1 : Nat) : Int) < (l.length : Int) by omega)]
  rw [if_pos (show (0 : Int) ≤ (i : Int) by omega), if_pos (show (i : Int) ≤ (l.length : Int) by omega), leq_f]
  obtain ⟨x, y, t, rfl⟩ : ∃ x y t, l = x :: y :: t := by
    match l, h2 with
    | [], h => simp at h
    | [x], h => simp at h
    | x :: y :: t, _ => exact ⟨x, y, t, rfl⟩
  have e0 : rd_T24 (x :: y :: t) 0 = x := rfl
  rw [e0]
  cases hr : riseB (x :: y :: t) with
  | false =>
    rw [hr] at hc
    cases p : riseB ((x :: y :: t).take (i + 1)) <;> cases q : riseB ((x :: y :: t).drop i) <;> rw [p, q] at hc <;> first | exact absurd hc (by decide) | simp
  | true =>
    rw [hr] at hc
    have hc' := hc.symm
    rw [Bool.and_eq_true] at hc'
    obtain ⟨p, q⟩ := hc'
    rw [p, q]
    obtain ⟨z, hz, hl2, hs⟩ := rise_ends t x y hl.2 hr
    have ez : rd_T24 (x :: y :: t) (((x :: y :: t).length - 1 : Nat) : Int) = z := by
      rw [List.getLast?_eq_getElem?] at hz
      unfold rd_T24
      rw [List.getD_eq_getElem?_getD, show ((((x :: y :: t).length - 1 : Nat) : Int)).toNat = (x :: y :: t).length - 1 by omega, hz]
      rfl
    rw [ez, hl2]
    simp [sameB] at hs
    simp
    by_cases hf : x.f0 = z.f0
    · right; exact hs hf
    · left; exact hf
end Go.Proofs.Ytpbcamdjcnokfaa.Pure
