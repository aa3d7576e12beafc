/- A domain may ask for just the levels that it has: of every configuration, domain, number. -/
import Derived.Test.YthlokoombomndaaErrIs
import Derived.Test.YthlokoombomndaaPx14
import Derived.Test.YthlokoombomndaaCheckB
namespace Go.Proofs.Ythlokoombomndaa.Pure
open Go Go.RowKit Go.Proofs.Ythlokoombomndaa Go.Proofs.Ythlokoombomndaa.P Go.Proofs.Ythlokoombomndaa.Bits64 Go.Proofs.Ythlokoombomndaa.Lab Go.Proofs.Ythlokoombomndaa.ConfR Go.Proofs.Ythlokoombomndaa.CheckB Go.Proofs.YthlokoombomndaaW.PrintWords Go.Proofs.YthlokoombomndaaW.PrintLast Go.Proofs.YthlokoombomndaaW.PrintMore

theorem CheckLevels : ∀ (x0 : S25) (x1 : Int) (x2 : Int), wf25 x0 → (0 ≤ x1 ∧ x1 ≤ 255) → (-9223372036854775808 ≤ x2 ∧ x2 ≤ 9223372036854775807) → ∃ k, tontinelaw20_CheckLevels.f k x0.f0 x0.f1 x0.f2 x0.f3 x1 x2 = some true := by
  rintro ⟨a, b, plans, doms⟩ x n hw hx hn
  obtain ⟨_, _, hp, hd⟩ := hw
  dsimp only at hp hd ⊢
  have hdr : ∀ d ∈ doms, d.f1.length ≤ 9223372036854775807 ∧ d.f2.length ≤ 9223372036854775807 := fun d h => ⟨(hd.2 d h).2.1.1, (hd.2 d h).2.2.1.1⟩
  obtain ⟨K1, h1⟩ := known_f
  obtain ⟨K2, h2⟩ := wide_f a b plans doms hp.1 hd.1 (fun d h => (hdr d h).1)
  obtain ⟨K3, h3⟩ := isConf_f a b plans doms hp.1 (fun p h => (hp.2 p h).1) hd.1 hdr
  refine ⟨K1 + K2 + K3 + 2, ?_⟩
  have q1 := h1 (K1 + K2 + K3 + 2) (by omega)
  have q2 := h2 (K1 + K2 + K3 + 2) (by omega)
  have q3 := h3 (K1 + K2 + K3 + 2) (by omega)
  dsimp only at q1 q2 q3
  unfold tontinelaw20_CheckLevels.f
  rw [q1, bind_some', if_pos rfl, q2, bind_some']
  cases wideB plans doms with
  | true => rw [if_pos rfl]; simp only [tontinelaw20_CheckLevels.j0]; rfl
  | false =>
    rw [if_neg (by decide), q3, bind_some']
    by_cases hc : isConf a b plans doms = 0
    · obtain ⟨l1, l2⟩ := isConf_len hc
      obtain ⟨t1, t2⟩ := tmod_in hx.1 hx.2 (show 0 < doms.length by omega)
      obtain ⟨i, hi⟩ : ∃ i, x.toNat % doms.length = i := ⟨_, rfl⟩
      rw [hi] at t1 t2
      rw [hc]
      simp only [tontinelaw20_CheckLevels.j0]
      rw [if_neg (by decide), if_neg (by omega), t1, level_f a b plans doms _ t2, bind_some']
      have e : ∀ t : Option Int, errors_Is.f t (some 10) = some (decide (t = some 10)) := fun _ => rfl
      have lo : n < 0 ∨ n ≥ ((rd_T44 doms (i : Int)).f2.length : Int) → levelE doms i n = some 10 := by
        intro h; unfold levelE; rw [if_pos]; simpa using h
      rw [e]
      by_cases c1 : n ≥ 0
      · rw [if_pos c1, if_pos (by omega), if_pos (by omega)]
        by_cases c2 : n < ((rd_T44 doms (i : Int)).f2.length : Int)
        · have ln : levelE doms i n = none := by
            unfold levelE; rw [if_neg]; simp; omega
          rw [if_pos c2, ln]; rfl
        · rw [if_neg c2, lo (.inr (by omega))]; rfl
      · rw [if_neg c1, lo (.inl (by omega))]; rfl
    · have : (isConf a b plans doms != 0) = true := by simpa using hc
      rw [this]; simp only [tontinelaw20_CheckLevels.j0]; rfl
end Go.Proofs.Ythlokoombomndaa.Pure
