/- What holds and what is told behind every row of asks and turns is the document's: each error, the plan, all levels: of every configuration, of at most sixty steps. -/
import Derived.Test.YtbhfkhcedjgpdaaDoorPx13
import Derived.Test.YtbhfkhcedjgpdaaDoorPx14
import Derived.Test.YtbhfkhcedjgpdaaDoorPx15
import Derived.Test.YtbhfkhcedjgpdaaDoorLatchR
namespace Go.Proofs.YtbhfkhcedjgpdaaDoor.Pure
open Go Go.RowKit Go.Proofs.YtbhfkhcedjgpdaaDoor Go.Proofs.YtbhfkhcedjgpdaaDoor.P Go.Proofs.YtbhfkhcedjgpdaaDoor.Lab Go.Proofs.YtbhfkhcedjgpdaaDoor.ConfR Go.Proofs.YtbhfkhcedjgpdaaDoor.ConfS Go.Proofs.YtbhfkhcedjgpdaaDoor.LatchR Go.Proofs.YtbhfkhcedjgpdaaDoorW.PrintWords Go.Proofs.YtbhfkhcedjgpdaaDoorW.PrintLast Go.Proofs.YtbhfkhcedjgpdaaDoorW.PrintMore
def codeE (e : Option Int) : Int := match e with | none => 0 | some n => n
theorem code_f (e : Option Int) : ext_20.f e = some (codeE e) := by cases e <;> rfl
section
variable (a b : Int) (plans : List (List Int)) (doms : List S60)
theorem rnew_f (hn : doms.length ≤ 10) : tontineref15_NewLatch.f a b plans doms = some (a, b, 0, 0, List.replicate doms.length 0, List.replicate doms.length 0) := by
  unfold tontineref15_NewLatch.f
  rw [if_pos (by omega), if_pos (by omega), Int.toNat_natCast]
theorem raskPlan_f (hp : Int) (hl : List Int) (ap : Int) (al : List Int) (i : Int) : tontineref15_Latch_AskPlan.f a b plans doms hp ap hl al i = some (codeE (askP plans ap i).1, hp, (askP plans ap i).2, hl, al) := by
  unfold tontineref15_Latch_AskPlan.f askP
  by_cases h : i < 0
  · rw [if_pos h, if_pos h]; rfl
  · rw [if_neg h, if_neg h]
    by_cases h2 : i ≥ (plans.length : Int)
    · rw [if_pos h2, if_pos h2]; rfl
    · rw [if_neg h2, if_neg h2]; rfl
theorem raskLevel_f (hp : Int) (hl : List Int) (ap : Int) (al : List Int) (hal : al.length = doms.length) (hd : doms.length ≤ 10) (d v : Int) (k : Nat) : tontineref15_Latch_AskLevel.f (k + 1) a b plans doms hp ap hl al d v = some (codeE (askL doms al d v).1, hp, ap, hl, (askL doms al d v).2) := by
  unfold tontineref15_Latch_AskLevel.f askL
  by_cases h : d < 0
  · rw [if_pos h, if_pos h]; simp only [tontineref15_Latch_AskLevel.j0]; rfl
  · rw [if_neg h, if_neg h]
    by_cases h2 : d ≥ (doms.length : Int)
    · rw [decide_eq_true h2, if_pos h2]; simp only [tontineref15_Latch_AskLevel.j0]; rfl
    · rw [decide_eq_false h2, if_neg h2]
      simp only [tontineref15_Latch_AskLevel.j0]
      rw [if_neg (by decide)]
      by_cases h3 : v < 0
      · rw [if_pos h3, if_pos h3]; rfl
      · rw [if_neg h3, if_neg h3, if_pos (by omega), if_pos (by omega)]
        by_cases h4 : v ≥ (((rd_T60 doms d).f2).length : Int)
        · rw [if_pos h4, if_pos h4]; rfl
        · rw [if_neg h4, if_neg h4, if_pos (by rw [List.length_nil]; omega), Lab.bind_some', List.nil_append, if_pos (by omega)]; rfl
theorem rturn_f (hp : Int) (hl : List Int) (ap : Int) (al : List Int) (h2 : al.length ≤ 1000) : tontineref15_Latch_Turn.f a b plans doms hp ap hl al = some (ap, ap, al, al) := by
  unfold tontineref15_Latch_Turn.f
  rw [if_pos (by rw [List.length_nil]; omega), List.nil_append]
theorem plays_j2 (l : List S41) (i : Int) (x : Int) (hp : Int) (hl : List Int) (ap : Int) (al : List Int) (h : hl.length ≤ 1000) (k : Nat) (hk : 1100 < k) :
    tontinelaw15_LatchPlays.j2 (k + 1) l i x x a b plans doms hp hl ap al a b plans doms hp ap hl al = tontinelaw15_LatchPlays.l0 (k - 1) l (wrap64 (i + 1)) a b plans doms hp hl ap al a b plans doms hp ap hl al := by
  obtain ⟨k, rfl⟩ : ∃ m, k = m + 1 := ⟨k - 1, by omega⟩
  simp only [tontinelaw15_LatchPlays.j2]
  rw [if_true, plan_f, Lab.bind_some']
  dsimp only
  rw [if_pos rfl, levels_f a b plans doms _ _ _ _ h, Lab.bind_some']
  dsimp only
  rw [ConfS.same_f hl (by omega) (k + 1) (by omega), Lab.bind_some']
  simp only [tontinelaw15_LatchPlays.j3]
  rw [if_neg (by decide)]
  rfl
end
theorem plays_l0 (a b : Int) (plans : List (List Int)) (doms : List S60) (hn : doms.length ≤ 10) (l : List S41) (hl : l.length ≤ 60) : ∀ (d i k : Nat) (hp : Int) (hls : List Int) (ap : Int) (al : List Int), i + d = l.length → 3 * d + 1200 < k → hls.length = doms.length → al.length = doms.length →
    tontinelaw15_LatchPlays.l0 k l (i : Int) a b plans doms hp hls ap al a b plans doms hp ap hls al = some true := by
  intro d
  induction d with
  | zero =>
    intro i k hp hls ap al hi hk h1 h2
    obtain ⟨k, rfl⟩ : ∃ m, k = m + 1 := ⟨k - 1, by omega⟩
    simp only [tontinelaw15_LatchPlays.l0]
    rw [if_neg (by omega)]
  | succ d ih =>
    intro i k hp hls ap al hi hk h1 h2
    obtain ⟨k, rfl⟩ : ∃ m, k = m + 3 := ⟨k - 3, by omega⟩
    rw [show k + 3 = (k + 1 + 1) + 1 from rfl]
    simp only [tontinelaw15_LatchPlays.l0]
    obtain ⟨s, hs⟩ : ∃ s, s = rd_T41 l (i : Int) := ⟨_, rfl⟩
    rw [if_pos (by omega), if_pos (by omega), ← hs]
    have w := ConfR.wrap_succ (i := i) (n := l.length) (by omega) (by omega)
    by_cases h : s.f0 ≤ 1
    · rw [if_pos h, askPlan_f, Lab.bind_some']
      dsimp only
      rw [code_f, Lab.bind_some', raskPlan_f, Lab.bind_some']
      dsimp only
      rw [plays_j2 a b plans doms l (i : Int) _ _ _ _ _ (by omega) (k + 1) (by omega), w]
      exact ih (i + 1) k _ _ _ _ (by omega) (by omega) h1 h2
    · rw [if_neg h]
      by_cases h4 : s.f0 ≤ 4
      · rw [if_pos h4, askLevel_f a b plans doms hp hls ap al h2, Lab.bind_some']
        dsimp only
        rw [code_f, Lab.bind_some', raskLevel_f a b plans doms hp hls ap al h2 hn, Lab.bind_some']
        dsimp only
        rw [plays_j2 a b plans doms l (i : Int) _ _ _ _ _ (by omega) (k + 1) (by omega), w]
        exact ih (i + 1) k _ _ _ _ (by omega) (by omega) h1 ((askL_len ..).trans h2)
      · rw [if_neg h4, turn_f a b plans doms hp hls ap al (by omega) (by omega) (k + 1 + 1) (by omega), Lab.bind_some']
        dsimp only
        rw [rturn_f a b plans doms hp hls ap al (by omega), Lab.bind_some']
        dsimp only
        rw [plays_j2 a b plans doms l (i : Int) _ _ _ _ _ (by omega) (k + 1) (by omega), w]
        exact ih (i + 1) k _ _ _ _ (by omega) (by omega) h2 h2

theorem LatchPlays : ∀ (x0 : S25) (x1 : List S41), wf25 x0 → (x1.length ≤ 9223372036854775807 ∧ ∀ y ∈ x1, wf41 y) → ∃ k, tontinelaw15_LatchPlays.f k x0.f0 x0.f1 x0.f2 x0.f3 x1 = some true := by
  rintro ⟨a, b, plans, doms⟩ l hw hl
  obtain ⟨_, _, hp, hd⟩ := hw
  dsimp only at hp hd ⊢
  have hdr : ∀ d ∈ doms, d.f1.length ≤ 9223372036854775807 ∧ d.f2.length ≤ 9223372036854775807 := fun d h => ⟨(hd.2 d h).2.1.1, (hd.2 d h).2.2.1.1⟩
  obtain ⟨K1, h1⟩ := known_f
  obtain ⟨K2, h2⟩ := wide_f a b plans doms hp.1 hd.1 (fun d h => (hdr d h).1)
  obtain ⟨K3, h3⟩ := isConf_f a b plans doms hp.1 (fun p h => (hp.2 p h).1) hd.1 hdr
  refine ⟨K1 + K2 + K3 + 1600 + 1, ?_⟩
  have q1 := h1 (K1 + K2 + K3 + 1600 + 1) (by omega)
  have q2 := h2 (K1 + K2 + K3 + 1600 + 1) (by omega)
  have q3 := h3 (K1 + K2 + K3 + 1600 + 1) (by omega)
  dsimp only at q1 q2 q3
  have jt : tontinelaw15_LatchPlays.j0 (K1 + K2 + K3 + 1600 + 1) l true a b plans doms = some true := by simp only [tontinelaw15_LatchPlays.j0]; rfl
  unfold tontinelaw15_LatchPlays.f
  rw [q1, Lab.bind_some', if_pos rfl, q2, Lab.bind_some']
  cases hwd : wideB plans doms with
  | true => rw [if_pos rfl, jt]
  | false =>
    rw [if_neg (by decide), q3, Lab.bind_some']
    by_cases hc : isConf a b plans doms = 0
    · rw [if_pos hc]
      by_cases h60 : (l.length : Int) > 60
      · rw [decide_eq_true h60, jt]
      rw [decide_eq_false h60]
      have hn := (wide_len hwd).1
      simp only [tontinelaw15_LatchPlays.j0]
      rw [if_neg (by decide), new_f a b plans doms hn, Lab.bind_some', rnew_f a b plans doms hn, Lab.bind_some']
      dsimp only
      exact plays_l0 a b plans doms hn l (by omega) l.length 0 _ _ _ _ _ (by omega) (by omega) (by simp) (by simp)
    · rw [if_neg hc, jt]
end Go.Proofs.YtbhfkhcedjgpdaaDoor.Pure
