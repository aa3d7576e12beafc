/- TraceUnlike's plain law: unlike rows of what is seen have unlike texts. -/
import Derived.Test.YtlmllmbbdlkknaaDoorPx14
import Derived.Test.YtlmllmbbdlkknaaDoorPx7
import Derived.Test.YtlmllmbbdlkknaaDoorInj
import Derived.Test.YtlmllmbbdlkknaaDoorRd
import Derived.Laws.Strings
namespace Go.Proofs.YtlmllmbbdlkknaaDoor.Pure
open Go Go.RowKit Go.Proofs.YtlmllmbbdlkknaaDoor Go.Proofs.YtlmllmbbdlkknaaDoor.P Go.Proofs.YtlmllmbbdlkknaaDoorW.PrintWords Go.Proofs.YtlmllmbbdlkknaaDoorW.PrintLast
theorem known_k : tontinelaw24_known.f 40 = some true := by decide +kernel
theorem known_f : Ev (fun k => tontinelaw24_known.f k) true := Ev.of (g := fun k => tontinelaw24_known.f k) (fun k => tontinelaw24_known.mono k) known_k
theorem seen_f (o : S35) : tontinelaw24_seen.f o.f0 o.f1 o.f2 o.f3 o.f4 o.f5 = some (seenB o) := by
  unfold tontinelaw24_seen.f seenB
  by_cases h1 : o.f1 = 2
  · rw [if_pos h1, h1]; rfl
  · rw [if_neg h1]
    by_cases h2 : o.f1 = 1
    · rw [if_pos h2, h2]
      by_cases h3 : o.f3 = 0
      · rw [if_pos h3, h3]
        by_cases h4 : o.f4 = 0
        · rw [if_pos h4, h4]; rfl
        · rw [if_neg h4]; simp [h4]
      · rw [if_neg h3]; simp [h3]
    · rw [if_neg h2]; simp [h1, h2]
theorem ba_list (l : List UInt8) : (⟨l.toArray⟩ : ByteArray).toList = l := by
  rw [ByteArray.toList_eq]
theorem last_ (a b : List S35) (ha : a.length ≤ 60) (hb : b.length ≤ 60) (oa : a.all okO = true) (ob : b.all okO = true) (sa : a.all seenB = true) (sb : b.all seenB = true) :
    ((ext_13.f a).bind fun t352 => ((ext_13.f b).bind fun t353 => ((ext_11.f a b).bind fun t354 => (some ((t352.toList == t353.toList) == t354))))) = some true := by
  unfold ext_13.f ext_11.f
  rw [if_pos ⟨ha, oa⟩, if_pos ⟨hb, ob⟩, if_pos ⟨ha, hb⟩]
  simp only [Option.bind_some, ba_list, text_same a b oa ob sa sb, beq_self_eq_true]
theorem rd_at (l : List S35) (i : Nat) (h : i < l.length) : rd_T35 l (i : Int) = l[i] := by simp [rd_T35, h]
theorem all_succ {p : S35 → Bool} (l : List S35) (i : Nat) (h : i < l.length) (h1 : (l.take i).all p = true) (h2 : p l[i] = true) : (l.take (i + 1)).all p = true := by
  have e : l.take (i + 1) = l.take i ++ [l[i]] := (List.take_append_getElem h).symm
  rw [e, List.all_append, h1, List.all_cons, h2]
  rfl
theorem loop1 (a b : List S35) (ha : a.length ≤ 60) (hb : b.length ≤ 60) (oa : a.all okO = true) (ob : b.all okO = true) (sa : a.all seenB = true) : ∀ (d i k : Nat), i + d = b.length → d < k → (b.take i).all seenB = true → tontinelaw24_TraceUnlike.l1 k a b (i : Int) = some true := by
  intro d
  induction d with
  | zero =>
    intro i k hi hk hs
    obtain ⟨k, rfl⟩ : ∃ m, k = m + 1 := ⟨k - 1, by omega⟩
    simp only [tontinelaw24_TraceUnlike.l1]
    rw [List.take_of_length_le (by omega)] at hs
    rw [if_neg (by omega), last_ a b ha hb oa ob sa hs]
  | succ d ih =>
    intro i k hi hk hs
    obtain ⟨k, rfl⟩ : ∃ m, k = m + 1 := ⟨k - 1, by omega⟩
    have hil : i < b.length := by omega
    have hw : wrap64 ((i : Int) + 1) = ((i + 1 : Nat) : Int) := by unfold wrap64; omega
    simp only [tontinelaw24_TraceUnlike.l1]
    rw [if_pos (by omega), if_pos (by omega), seen_f, Option.bind_some, rd_at b i hil]
    cases hb' : seenB b[i] with
    | true => rw [if_pos rfl, hw, ih (i + 1) k (by omega) (by omega) (all_succ b i hil hs hb')]
    | false => rw [if_neg (by decide)]
theorem loop0 (a b : List S35) (ha : a.length ≤ 60) (hb : b.length ≤ 60) (oa : a.all okO = true) (ob : b.all okO = true) : ∀ (d i k : Nat), i + d = a.length → d + 100 < k → (a.take i).all seenB = true → tontinelaw24_TraceUnlike.l0 k a b (i : Int) = some true := by
  intro d
  induction d with
  | zero =>
    intro i k hi hk hs
    obtain ⟨k, rfl⟩ : ∃ m, k = m + 1 := ⟨k - 1, by omega⟩
    simp only [tontinelaw24_TraceUnlike.l0]
    rw [List.take_of_length_le (by omega)] at hs
    rw [if_neg (by omega)]
    exact loop1 a b ha hb oa ob hs b.length 0 k (by omega) (by omega) rfl
  | succ d ih =>
    intro i k hi hk hs
    obtain ⟨k, rfl⟩ : ∃ m, k = m + 1 := ⟨k - 1, by omega⟩
    have hil : i < a.length := by omega
    have hw : wrap64 ((i : Int) + 1) = ((i + 1 : Nat) : Int) := by unfold wrap64; omega
    simp only [tontinelaw24_TraceUnlike.l0]
    rw [if_pos (by omega), if_pos (by omega), seen_f, Option.bind_some, rd_at a i hil]
    cases hb' : seenB a[i] with
    | true => rw [if_pos rfl, hw, ih (i + 1) k (by omega) (by omega) (all_succ a i hil hs hb')]
    | false => rw [if_neg (by decide)]
theorem okO_wf {l : List S35} (h : ∀ y ∈ l, wf35 y) : l.all okO = true := by
  rw [List.all_eq_true]
  intro o ho
  obtain ⟨h0, _, h2, h3, h4, h5⟩ := h o ho
  unfold okO
  simp only [Bool.and_eq_true]
  exact ⟨⟨⟨⟨in64_iff.2 h0, in64_iff.2 h2⟩, in64_iff.2 h3⟩, in64_iff.2 h4⟩, in64_iff.2 h5⟩
theorem TraceUnlike : ∀ (x0 : List (S35)) (x1 : List (S35)), (x0.length ≤ 9223372036854775807 ∧ ∀ y ∈ x0, wf35 y) → (x1.length ≤ 9223372036854775807 ∧ ∀ y ∈ x1, wf35 y) → ∃ k, tontinelaw24_TraceUnlike.f k x0 x1 = some true := by
  intro a b ⟨_, wa⟩ ⟨_, wb⟩
  obtain ⟨K1, h1⟩ := known_f
  have g1 : tontinelaw24_known.f (K1 + 400) = some true := h1 _ (by omega)
  have hj : ∀ k, tontinelaw24_TraceUnlike.j0 (k + 1) a b true = some true := fun k => by simp only [tontinelaw24_TraceUnlike.j0]; rfl
  refine ⟨K1 + 400, ?_⟩
  unfold tontinelaw24_TraceUnlike.f
  rw [g1]
  simp only [Option.bind_some, if_true]
  by_cases c1 : a.length > 60
  · rw [if_pos (by omega)]
    exact hj _
  · rw [if_neg (by omega)]
    by_cases c2 : b.length > 60
    · rw [decide_eq_true (by omega)]
      exact hj _
    · rw [decide_eq_false (by omega)]
      show tontinelaw24_TraceUnlike.j0 (K1 + 399 + 1) a b false = _
      simp only [tontinelaw24_TraceUnlike.j0]
      rw [if_neg (by decide)]
      exact loop0 a b (by omega) (by omega) (okO_wf wa) (okO_wf wb) a.length 0 _ (by omega) (by omega) rfl
end Go.Proofs.YtlmllmbbdlkknaaDoor.Pure
