/- Of every two configurations: whether they may be, or what is wrong; an epoch's ticks; whether they are the same. -/
import Derived.Test.YtjgdcifbhmjinaaDoorPx14
import Derived.Test.YtjgdcifbhmjinaaDoorConfE
namespace Go.Proofs.YtjgdcifbhmjinaaDoor.Pure
open Go Go.RowKit Go.Proofs.YtjgdcifbhmjinaaDoor Go.Proofs.YtjgdcifbhmjinaaDoor.P Go.Proofs.YtjgdcifbhmjinaaDoor.Lab Go.Proofs.YtjgdcifbhmjinaaDoor.ConfR Go.Proofs.YtjgdcifbhmjinaaDoor.ConfC Go.Proofs.YtjgdcifbhmjinaaDoor.ConfE Go.Proofs.YtjgdcifbhmjinaaDoorW.PrintWords Go.Proofs.YtjgdcifbhmjinaaDoorW.PrintLast Go.Proofs.YtjgdcifbhmjinaaDoorW.PrintMore
theorem code_of (n : Int) : (match errOf n with | none => (0 : Int) | some m => m) = n := by
  unfold errOf
  by_cases h : n = 0
  · rw [if_pos h, h]
  · rw [if_neg h]
theorem errOf_none (n : Int) : (errOf n).isNone = decide (n = 0) := by
  unfold errOf
  by_cases h : n = 0
  · rw [if_pos h, decide_eq_true h]; rfl
  · rw [if_neg h, decide_eq_false h]; rfl
theorem ConfTells : ∀ (x0 : S25) (x1 : S25), wf25 x0 → wf25 x1 → ∃ k, tontinelaw3_ConfTells.f k x0.f0 x0.f1 x0.f2 x0.f3 x1.f0 x1.f1 x1.f2 x1.f3 = some true := by
  rintro ⟨a, b, p, d⟩ ⟨a', b', p', d'⟩ hw hw'
  obtain ⟨_, _, hp, hd⟩ := hw
  obtain ⟨_, _, hp', hd'⟩ := hw'
  dsimp only at hp hd hp' hd' ⊢
  have w1 := wide_f a b p d hp.1 hd.1 (fun x hx => (hd.2 x hx).2.1.1)
  have w2 := wide_f a' b' p' d' hp'.1 hd'.1 (fun x hx => (hd'.2 x hx).2.1.1)
  suffices h : Ev (fun k => tontinelaw3_ConfTells.f k a b p d a' b' p' d') true by
    obtain ⟨K, hK⟩ := h
    exact ⟨K, hK K (Nat.le_refl _)⟩
  have jt : Ev (fun k => tontinelaw3_ConfTells.j0 k true a b p d a' b' p' d') true := Ev_one (fun k => by simp only [tontinelaw3_ConfTells.j0]; rfl)
  unfold tontinelaw3_ConfTells.f
  refine Ev_bind (f := fun _ => ext_4.f) (x := true) (Ev_is (fun k => rfl)) (Ev_eq (fun k => if_pos rfl) (Ev_bind w1 ?_))
  cases hb1 : wideB p d with
  | true => exact Ev_eq (fun k => if_pos rfl) jt
  | false =>
    refine Ev_eq (fun k => if_neg (by decide)) (Ev_bind w2 ?_)
    cases hb2 : wideB p' d' with
    | true => exact jt
    | false =>
      obtain ⟨hf, hs⟩ := fits_of p d hb1
      have i1 := is_f a b p d hf
      have i2 := isConf_f a b p d hp.1 (fun q hq => (hp.2 q hq).1) hd.1 (fun x hx => ⟨(hd.2 x hx).2.1.1, (hd.2 x hx).2.2.1.1⟩)
      generalize isConf a b p d = n at i1 i2
      have tw : Ev (fun k => conf_Ticks.f k a b p d) (if n = 0 then wrap64 (a * b) else 0) := by
        unfold conf_Ticks.f
        refine Ev_bind i1 (Ev_is (fun k => ?_))
        rw [errOf_none]
        by_cases h : n = 0
        · rw [decide_eq_true h, if_pos rfl, if_pos h]
        · rw [decide_eq_false h, if_neg (by decide), if_neg h]
      have tr : Ev (fun k => tontineref1_Ticks.f k a b p d) (if n = 0 then wrap64 (a * b) else 0) := by
        unfold tontineref1_Ticks.f
        refine Ev_bind i2 (Ev_is (fun k => ?_))
        by_cases h : n = 0
        · rw [if_pos h, if_pos h]
        · rw [if_neg h, if_neg h]
      have s1 := csame_f a b p d a' b' p' d' hs
      have s3 := csame_f a b p d a b p d hs
      rw [confEq_refl] at s3
      refine Ev_step (g := fun k => (conf_Is.f k a b p d).bind fun t307 => ((ext_6.f t307).bind fun t308 => ((tontineref1_IsConf.f k a b p d).bind fun t309 => (if t308 = t309 then ((conf_Ticks.f k a b p d).bind fun t310 => ((tontineref1_Ticks.f k a b p d).bind fun t311 => (if t310 = t311 then ((conf_Same.f k a b p d a' b' p' d').bind fun t312 => ((ext_12.f a b p d a' b' p' d').bind fun t313 => (if (t312 == t313) = true then ((conf_Same.f k a b p d a b p d).bind fun t314 => (some t314)) else (some false)))) else (some false)))) else (some false))))) (fun k => ?_) ?_
      · simp only [tontinelaw3_ConfTells.j0]
        rfl
      · refine Ev_bind i1 (Ev_bind (f := fun _ => ext_6.f (errOf n)) (x := n) (Ev_is (fun k => congrArg some (code_of n))) (Ev_bind i2 (Ev_eq (fun k => if_pos rfl) (Ev_bind tw (Ev_bind tr (Ev_eq (fun k => if_pos rfl) (Ev_bind s1 (Ev_bind (f := fun _ => ext_12.f a b p d a' b' p' d') (x := confEq a b p d a' b' p' d') (Ev_is (fun k => if_pos hs)) (Ev_eq (fun k => if_pos (by simp)) (Ev_bind s3 (Ev_is (fun k => rfl)))))))))))) 
end Go.Proofs.YtjgdcifbhmjinaaDoor.Pure
