/- A latch's functions, in plain words: what is asked for, what holds behind a turn. -/
import Derived.Test.YtbhfkhcedjgpdaaErrIs
import Derived.Test.YtbhfkhcedjgpdaaPx10
import Derived.Test.YtbhfkhcedjgpdaaPx11
import Derived.Test.YtbhfkhcedjgpdaaPx12
import Derived.Test.YtbhfkhcedjgpdaaPx13
import Derived.Test.YtbhfkhcedjgpdaaConfS
namespace Go.Proofs.Ytbhfkhcedjgpdaa.LatchR
open Go Go.RowKit Go.Proofs.Ytbhfkhcedjgpdaa Go.Proofs.Ytbhfkhcedjgpdaa.P Go.Proofs.Ytbhfkhcedjgpdaa.Bits64 Go.Proofs.Ytbhfkhcedjgpdaa.Lab Go.Proofs.Ytbhfkhcedjgpdaa.ConfR Go.Proofs.Ytbhfkhcedjgpdaa.ConfS Go.Proofs.YtbhfkhcedjgpdaaW.PrintWords Go.Proofs.YtbhfkhcedjgpdaaW.PrintLast Go.Proofs.YtbhfkhcedjgpdaaW.PrintMore
theorem known_f : Ev (fun k => tontinelaw15_known.f k) true := Ev.of (fun k => tontinelaw15_known.mono k) (k := 20) (by decide +kernel)
section
variable (a b : Int) (plans : List (List Int)) (doms : List S44)
theorem new_f (hn : doms.length ≤ 10) : latch_New.f a b plans doms = some (a, b, 0, List.replicate doms.length 0, 0, List.replicate doms.length 0) := by
  unfold latch_New.f
  rw [if_pos (by omega), if_pos (by omega), Int.toNat_natCast]
/-- What asking for a plan tells, and what is asked for behind it. -/
def askP (p i : Int) : Option Int × Int := if i < 0 then (some 10, p) else if i ≥ (plans.length : Int) then (some 10, p) else (none, i)
theorem askPlan_f (hp : Int) (hl : List Int) (ap : Int) (al : List Int) (i : Int) : latch_Latch_AskPlan.f a b plans doms hp hl ap al i = some ((askP plans ap i).1, hp, hl, (askP plans ap i).2, al) := by
  unfold latch_Latch_AskPlan.f askP
  by_cases h : i < 0
  · rw [if_pos h, if_pos h]
  · rw [if_neg h, if_neg h]
    by_cases h2 : i ≥ (plans.length : Int)
    · rw [if_pos h2, if_pos h2]
    · rw [if_neg h2, if_neg h2]
theorem askP_kept {p i : Int} (h : (askP plans p i).1.isNone = false) : (askP plans p i).2 = p := by
  unfold askP at h ⊢
  split
  · rfl
  · rename_i h1
    rw [if_neg h1] at h
    split
    · rfl
    · rename_i h2; rw [if_neg h2] at h; cases h
/-- What asking for a level tells, and what is asked for behind it. -/
def askL (l : List Int) (d v : Int) : Option Int × List Int :=
  if d < 0 then (some 13, l) else if d ≥ (doms.length : Int) then (some 13, l) else if v < 0 then (some 10, l) else if v ≥ (((rd_T44 doms d).f2).length : Int) then (some 10, l) else (none, l.set d.toNat v)
theorem askL_len (l : List Int) (d v : Int) : (askL doms l d v).2.length = l.length := by
  unfold askL; repeat' split
  all_goals simp
theorem askLevel_f (hp : Int) (hl : List Int) (ap : Int) (al : List Int) (hal : al.length = doms.length) (d v : Int) (k : Nat) : latch_Latch_AskLevel.f (k + 1) a b plans doms hp hl ap al d v = some ((askL doms al d v).1, hp, hl, ap, (askL doms al d v).2) := by
  unfold latch_Latch_AskLevel.f askL
  by_cases h : d < 0
  · rw [if_pos h, if_pos h]; simp only [latch_Latch_AskLevel.j0]; rfl
  · rw [if_neg h, if_neg h]
    by_cases h2 : d ≥ (doms.length : Int)
    · rw [decide_eq_true h2, if_pos h2]; simp only [latch_Latch_AskLevel.j0]; rfl
    · rw [decide_eq_false h2, if_neg h2]
      simp only [latch_Latch_AskLevel.j0]
      rw [if_neg (by decide)]
      by_cases h3 : v < 0
      · rw [if_pos h3, if_pos h3]
      · rw [if_neg h3, if_neg h3, if_pos (by omega), if_pos (by omega)]
        by_cases h4 : v ≥ (((rd_T44 doms d).f2).length : Int)
        · rw [if_pos h4, if_pos h4]
        · rw [if_neg h4, if_neg h4, if_pos (by omega)]
theorem askL_kept {l : List Int} {d v : Int} (h : (askL doms l d v).1.isNone = false) : (askL doms l d v).2 = l := by
  unfold askL at h ⊢
  by_cases h1 : d < 0
  · rw [if_pos h1]
  · rw [if_neg h1] at h ⊢
    by_cases h2 : d ≥ (doms.length : Int)
    · rw [if_pos h2]
    · rw [if_neg h2] at h ⊢
      by_cases h3 : v < 0
      · rw [if_pos h3]
      · rw [if_neg h3] at h ⊢
        by_cases h4 : v ≥ (((rd_T44 doms d).f2).length : Int)
        · rw [if_pos h4]
        · rw [if_neg h4] at h; cases h
theorem turn_l (hp : Int) (ap : Int) (al : List Int) (hl2 : al.length ≤ 1000) : ∀ (d i k : Nat) (hl : List Int), i + d = al.length → d < k → hl.length = al.length → hl.take i = al.take i →
    latch_Latch_Turn.l0 k (i : Int) a b plans doms hp hl ap al = some (hp, al, ap, al) := by
  intro d
  induction d with
  | zero =>
    intro i k hl hi hk hn ht
    obtain ⟨k, rfl⟩ : ∃ m, k = m + 1 := ⟨k - 1, by omega⟩
    simp only [latch_Latch_Turn.l0]
    rw [if_neg (by omega)]
    have e : hl = al := by rw [← List.take_of_length_le (l := hl) (i := i) (by omega), ht, List.take_of_length_le (by omega)]
    rw [e]
  | succ d ih =>
    intro i k hl hi hk hn ht
    obtain ⟨k, rfl⟩ : ∃ m, k = m + 1 := ⟨k - 1, by omega⟩
    simp only [latch_Latch_Turn.l0]
    rw [if_pos (by omega), if_pos (by omega), if_pos (by omega), rd_nat al i (by omega), Int.toNat_natCast, ConfR.wrap_succ (n := al.length) (by omega) (by omega)]
    refine ih (i + 1) k _ (by omega) (by omega) (by simp; exact hn) ?_
    rw [List.take_add_one, List.take_add_one, List.getElem?_set_self (by omega), List.take_set_of_le (Nat.le_refl _), ht, List.getElem?_eq_getElem (show i < al.length by omega)]
theorem turn_f (hp : Int) (hl : List Int) (ap : Int) (al : List Int) (h : hl.length = al.length) (h2 : al.length ≤ 1000) (k : Nat) (hk : al.length < k) : latch_Latch_Turn.f k a b plans doms hp hl ap al = some (ap, al, ap, al) := by
  unfold latch_Latch_Turn.f
  exact turn_l a b plans doms ap ap al h2 al.length 0 k hl (by omega) hk h (by simp)
theorem plan_f (hp : Int) (hl : List Int) (ap : Int) (al : List Int) : latch_Latch_Plan.f a b plans doms hp hl ap al = some (hp, hp, hl, ap, al) := rfl
theorem levels_f (hp : Int) (hl : List Int) (ap : Int) (al : List Int) (h : hl.length ≤ 1000) : latch_Latch_Levels.f a b plans doms hp hl ap al = some (hl, hp, hl, ap, al) := by
  unfold latch_Latch_Levels.f ext_46.f
  rw [if_pos (by omega), Lab.bind_some']
end
end Go.Proofs.Ytbhfkhcedjgpdaa.LatchR
