/- TraceTells' plain law: both tell the same. -/
import Derived.Test.YtlmllmbbdlkknaaDoorPx11
import Derived.Test.YtlmllmbbdlkknaaDoorPx7
import Derived.Test.YtlmllmbbdlkknaaDoorRefR
import Derived.Test.YtlmllmbbdlkknaaDoorInj
import Derived.Test.YtlmllmbbdlkknaaDoorRd
import Derived.Laws.Strings
namespace Go.Proofs.YtlmllmbbdlkknaaDoor.Pure
open Go Go.RowKit Go.Proofs.YtlmllmbbdlkknaaDoor Go.Proofs.YtlmllmbbdlkknaaDoor.P Go.Proofs.YtlmllmbbdlkknaaDoor.WideR Go.Proofs.YtlmllmbbdlkknaaDoorW.PrintWords Go.Proofs.YtlmllmbbdlkknaaDoorW.PrintLast
theorem known_k : tontinelaw24_known.f 40 = some true := by decide +kernel
theorem known_f : Ev (fun k => tontinelaw24_known.f k) true := Ev.of (g := fun k => tontinelaw24_known.f k) (fun k => tontinelaw24_known.mono k) known_k
theorem okO_wf {l : List S35} (h : ∀ y ∈ l, wf35 y) : l.all okO = true := by
  rw [List.all_eq_true]
  intro o ho
  obtain ⟨h0, _, h2, h3, h4, h5⟩ := h o ho
  unfold okO
  simp only [Bool.and_eq_true]
  exact ⟨⟨⟨⟨in64_iff.2 h0, in64_iff.2 h2⟩, in64_iff.2 h3⟩, in64_iff.2 h4⟩, in64_iff.2 h5⟩
theorem line_k {o : S35} (h : okO o = true) {K : Nat} (hK : ∀ n, K ≤ n → ∀ o, okO o = true → trace_Line.f n o.f0 o.f1 o.f2 o.f3 o.f4 o.f5 = some ⟨(lineL o).toArray⟩) {k : Nat} (hk : K ≤ k) : trace_Line.f k o.f0 o.f1 o.f2 o.f3 o.f4 o.f5 = some ⟨(lineL o).toArray⟩ := hK k hk o h
theorem line_up (o : S35) (h : okO o = true) : ∀ d, trace_Line.f (8 + d) o.f0 o.f1 o.f2 o.f3 o.f4 o.f5 = some ⟨(lineL o).toArray⟩
  | 0 => line_f o h
  | d + 1 => trace_Line.mono _ _ _ _ _ _ _ _ (line_up o h d)
theorem line_at (o : S35) (h : okO o = true) (k : Nat) (hk : 8 ≤ k) : trace_Line.f k o.f0 o.f1 o.f2 o.f3 o.f4 o.f5 = some ⟨(lineL o).toArray⟩ := by
  have := line_up o h (k - 8)
  rwa [show 8 + (k - 8) = k by omega] at this
theorem same_self (a : List S35) : sameO a a = true := (sameO_iff a a).2 rfl
theorem last_ (c0 c1 : Int) (plans : List (List Int)) (doms : List S46) (a b : List S35) (tr : List (List S35)) (la lb : Int) (ha : a.length ≤ 60) (hb : b.length ≤ 60) (oa : a.all okO = true) (h20 : doms.length ≤ 20) (ok : okT tr = true) (k : Nat) (hk : 200 < k) :
    tontinelaw24_TraceTells.l1 k a b tr (a.length : Int) c0 c1 plans doms la lb = some true := by
  obtain ⟨k, rfl⟩ : ∃ m, k = m + 1 := ⟨k - 1, by omega⟩
  simp only [tontinelaw24_TraceTells.l1]
  rw [if_neg (by omega)]
  have e1 : ext_11.f a b = some (sameO a b) := if_pos ⟨ha, hb⟩
  have e2 : ext_11.f a a = some true := by
    have : ext_11.f a a = some (sameO a a) := if_pos ⟨ha, ha⟩
    rw [this, same_self]
  have e3 : ext_13.f a = some ⟨(textL a).toArray⟩ := if_pos ⟨ha, oa⟩
  have e4 : ext_18.f c0 c1 plans doms tr la lb = some ⟨(jointL tr (belowL doms la lb (min doms.length tr.length))).toArray⟩ := if_pos ⟨h20, ok⟩
  have hl := belowL_len doms la lb (min doms.length tr.length)
  rw [e1, sameobs_f a b ha k (by omega), e2, e3, reftext_f a ha oa k (by omega), below_k c0 c1 plans doms tr la lb h20 k (by omega), refbelow_f c0 c1 plans doms tr la lb h20 k (by omega), e4, refjoint_f c0 c1 plans doms tr la lb h20 ok k (by omega)]
  simp only [Option.bind_some, beq_self_eq_true, if_true]
  rw [sameints_f _ (by rw [List.length_map]; omega) k (by omega)]
  simp only [Option.bind_some, if_true]
theorem loop1 (c0 c1 : Int) (plans : List (List Int)) (doms : List S46) (a b : List S35) (tr : List (List S35)) (la lb : Int) (ha : a.length ≤ 60) (hb : b.length ≤ 60) (oa : a.all okO = true) (h20 : doms.length ≤ 20) (ok : okT tr = true) : ∀ (d i k : Nat), i + d = a.length → d + 201 < k →
    tontinelaw24_TraceTells.l1 k a b tr (i : Int) c0 c1 plans doms la lb = some true := by
  intro d
  induction d with
  | zero =>
    intro i k hi hk
    obtain rfl : i = a.length := by omega
    exact last_ c0 c1 plans doms a b tr la lb ha hb oa h20 ok k (by omega)
  | succ d ih =>
    intro i k hi hk
    obtain ⟨k, rfl⟩ : ∃ m, k = m + 1 := ⟨k - 1, by omega⟩
    have hil : i < a.length := by omega
    have hw : wrap64 ((i : Int) + 1) = ((i + 1 : Nat) : Int) := by unfold wrap64; omega
    have hrd : rd_T35 a (i : Int) = a[i] := by simp [rd_T35, hil]
    have ho := List.all_eq_true.1 oa a[i] (List.getElem_mem hil)
    simp only [tontinelaw24_TraceTells.l1]
    rw [if_pos (by omega), if_pos (by omega), hrd, line_at _ ho k (by omega), refline_f _ ho, hw]
    simp only [Option.bind_some, if_true]
    exact ih (i + 1) k (by omega) (by omega)
theorem rows_ok {tr : List (List S35)} (h : ∀ y ∈ tr, y.length ≤ 9223372036854775807 ∧ ∀ z ∈ y, wf35 z) (i : Nat) (hs : ∀ j, j < tr.length → j < i → (rd_L4 tr (j : Int)).length ≤ 60) (hi : tr.length ≤ i) : okT tr = true := by
  unfold okT
  rw [List.all_eq_true]
  intro l hl
  obtain ⟨j, hj, rfl⟩ := List.getElem_of_mem hl
  have e : rd_L4 tr (j : Int) = tr[j] := by simp [rd_L4, hj]
  have h1 := hs j hj (by omega)
  rw [e] at h1
  rw [Bool.and_eq_true, decide_eq_true_eq]
  exact ⟨h1, okO_wf (h _ hl).2⟩
theorem loop0 (c0 c1 : Int) (plans : List (List Int)) (doms : List S46) (a b : List S35) (tr : List (List S35)) (la lb : Int) (ha : a.length ≤ 60) (hb : b.length ≤ 60) (oa : a.all okO = true) (h20 : doms.length ≤ 20) (htr : tr.length ≤ 10) (hwt : ∀ y ∈ tr, y.length ≤ 9223372036854775807 ∧ ∀ z ∈ y, wf35 z) : ∀ (d i k : Nat), i + d = tr.length → d + 300 < k →
    (∀ j, j < tr.length → j < i → (rd_L4 tr (j : Int)).length ≤ 60) → tontinelaw24_TraceTells.l0 k a b tr (i : Int) c0 c1 plans doms la lb = some true := by
  intro d
  induction d with
  | zero =>
    intro i k hi hk hs
    obtain ⟨k, rfl⟩ : ∃ m, k = m + 1 := ⟨k - 1, by omega⟩
    simp only [tontinelaw24_TraceTells.l0]
    rw [if_neg (by omega)]
    exact loop1 c0 c1 plans doms a b tr la lb ha hb oa h20 (rows_ok hwt i hs (by omega)) a.length 0 k (by omega) (by omega)
  | succ d ih =>
    intro i k hi hk hs
    obtain ⟨k, rfl⟩ : ∃ m, k = m + 1 := ⟨k - 1, by omega⟩
    have hw : wrap64 ((i : Int) + 1) = ((i + 1 : Nat) : Int) := by unfold wrap64; omega
    simp only [tontinelaw24_TraceTells.l0]
    rw [if_pos (by omega), if_pos (by omega), hw]
    split
    · rfl
    · rename_i hn
      refine ih (i + 1) k (by omega) (by omega) (fun j hj hji => ?_)
      by_cases e : j = i
      · subst e
        omega
      · exact hs j hj (by omega)
theorem TraceTells : ∀ (x0 : S25) (x1 : List (S35)) (x2 : List (S35)) (x3 : List (List (S35))) (x4 : S30), wf25 x0 → (x1.length ≤ 9223372036854775807 ∧ ∀ y ∈ x1, wf35 y) → (x2.length ≤ 9223372036854775807 ∧ ∀ y ∈ x2, wf35 y) → (x3.length ≤ 9223372036854775807 ∧ ∀ y ∈ x3, (y.length ≤ 9223372036854775807 ∧ ∀ z ∈ y, wf35 z)) → wf30 x4 → ∃ k, tontinelaw24_TraceTells.f k x0.f0 x0.f1 x0.f2 x0.f3 x1 x2 x3 x4.f0 x4.f1 = some true := by
  rintro ⟨c0, c1, plans, doms⟩ a b tr ⟨la, lb⟩ hw ⟨_, wa⟩ _ ⟨_, wt⟩ _
  obtain ⟨_, _, hp, hd⟩ := hw
  dsimp only at hp hd ⊢
  have hdr : ∀ d ∈ doms, d.f1.length ≤ 9223372036854775807 := fun d h => (hd.2 d h).2.1.1
  obtain ⟨K1, h1⟩ := known_f
  obtain ⟨K2, h2⟩ := wide_f c0 c1 plans doms hp.1 hd.1 hdr
  have hj : ∀ k, tontinelaw24_TraceTells.j0 (k + 1) a b tr true c0 c1 plans doms la lb = some true := fun k => by simp only [tontinelaw24_TraceTells.j0]; rfl
  refine ⟨K1 + K2 + 600, ?_⟩
  have g1 : tontinelaw24_known.f (K1 + K2 + 600) = some true := h1 _ (by omega)
  have g2 : tontinehelp_WideConf.f (K1 + K2 + 600) c0 c1 plans doms = some (wideB plans doms) := h2 _ (by omega)
  unfold tontinelaw24_TraceTells.f
  rw [g1, g2]
  simp only [Option.bind_some, if_true]
  cases hwi : wideB plans doms with
  | true =>
    rw [if_pos rfl]
    exact hj (K1 + K2 + 599)
  | false =>
    have hl := wide_len hwi
    rw [if_neg (by decide)]
    by_cases q1 : a.length > 60
    · rw [if_pos (by omega)]
      exact hj (K1 + K2 + 599)
    · rw [if_neg (by omega)]
      by_cases q2 : b.length > 60
      · rw [if_pos (by omega)]
        exact hj (K1 + K2 + 599)
      · rw [if_neg (by omega)]
        by_cases q3 : tr.length > 10
        · rw [decide_eq_true (by omega)]
          exact hj (K1 + K2 + 599)
        · rw [decide_eq_false (by omega)]
          show tontinelaw24_TraceTells.j0 (K1 + K2 + 599 + 1) a b tr false c0 c1 plans doms la lb = _
          simp only [tontinelaw24_TraceTells.j0]
          rw [if_neg (by decide)]
          exact loop0 c0 c1 plans doms a b tr la lb (by omega) (by omega) (okO_wf wa) (by omega) (by omega) wt tr.length 0 _ (by omega) (by omega) (fun j _ hj => by omega)
end Go.Proofs.YtlmllmbbdlkknaaDoor.Pure
