/- Levels above a label are alike in both orders; what is alike above a label is alike above a greater one; rows of unlike lengths never are. -/
import Derived.Test.YtnnkmkejcmdjpaaPx17
import Derived.Test.YtnnkmkejcmdjpaaLowR
namespace Go.Proofs.Ytnnkmkejcmdjpaa.Pure
open Go Go.RowKit Go.Proofs.Ytnnkmkejcmdjpaa Go.Proofs.Ytnnkmkejcmdjpaa.P Go.Proofs.Ytnnkmkejcmdjpaa.Lab Go.Proofs.Ytnnkmkejcmdjpaa.LowR Go.Proofs.YtnnkmkejcmdjpaaW.PrintWords Go.Proofs.YtnnkmkejcmdjpaaW.PrintLast Go.Proofs.YtnnkmkejcmdjpaaW.PrintMore
theorem base_f : ∃ (p q : Int) (pl : List (List Int)) (dm : List S46), tontinehelp_Base.f = some (p, q, pl, dm) ∧ dm.length = 4 ∧ ∀ i, i < 4 → hi dm ((rd_T46 dm 3).f0.f0) ((rd_T46 dm 3).f0.f1) i = false := by
  refine ⟨_, _, _, _, rfl, rfl, ?_⟩
  decide +kernel
theorem take_l (l : List Int) (hl : l.length ≤ 1000) : ∀ (n i k : Nat) (acc : List (List Int)), l.length ≤ i + n → n < k → i ≤ l.length → acc.length ≤ i → ∃ x, tontinelaw25_rows.l0 k l acc (i : Int) = some x ∧ x.length ≤ l.length := by
  intro n
  have w : ∀ i j : Nat, i ≤ 1000 → j ≤ 4 → wrap64 ((i : Int) + (j : Int)) = ((i + j : Nat) : Int) := fun i j h1 h2 => by rw [wrap_in (by omega) (by omega)]; rfl
  induction n with
  | zero =>
    intro i k acc h1 h2 h3 h4
    obtain ⟨k, rfl⟩ : ∃ j, k = j + 1 := ⟨k - 1, by omega⟩
    have w4 := w i 4 (by omega) (by omega)
    refine ⟨acc, ?_, by omega⟩
    rw [tontinelaw25_rows.l0, show (4 : Int) = ((4 : Nat) : Int) from rfl, w4, if_neg (by omega)]
  | succ n ih =>
    intro i k acc h1 h2 h3 h4
    obtain ⟨k, rfl⟩ : ∃ j, k = j + 1 := ⟨k - 1, by omega⟩
    have w1 := w i 1 (by omega) (by omega); have w2 := w i 2 (by omega) (by omega); have w3 := w i 3 (by omega) (by omega); have w4 := w i 4 (by omega) (by omega)
    rw [show ((4 : Nat) : Int) = 4 from rfl] at w4
    rw [show ((3 : Nat) : Int) = 3 from rfl] at w3
    rw [show ((2 : Nat) : Int) = 2 from rfl] at w2
    rw [show ((1 : Nat) : Int) = 1 from rfl] at w1
    rw [tontinelaw25_rows.l0, w1, w2, w3, w4]
    by_cases c : i + 4 ≤ l.length
    · rw [if_pos (by omega), if_pos (by omega), if_pos (by omega), if_pos (by omega), if_pos (by omega), if_pos (by omega), if_pos (by omega), if_pos (by omega), if_pos (by omega), if_pos (by omega)]
      exact ih (i + 4) k _ (by omega) (by omega) (by omega) (by rw [List.length_append]; simp; omega)
    · rw [if_neg (by omega)]
      exact ⟨acc, rfl, by omega⟩
theorem take_f (l : List Int) (hl : l.length ≤ 40) (k : Nat) (hk : 50 ≤ k) : ∃ x, tontinelaw25_rows.f k l = some x ∧ x.length ≤ 40 := by
  obtain ⟨x, h1, h2⟩ := take_l l (by omega) l.length 0 k [] (by omega) (by omega) (by omega) (Nat.le_refl _)
  exact ⟨x, h1, by omega⟩
theorem end_f (p q : Int) (pl : List (List Int)) (dm : List S46) (h4 : dm.length = 4) (la lb : Int) (hl : ∀ i, i < 4 → hi dm la lb i = false) (x y : List (List Int)) (hx : x.length ≤ 40) (k : Nat) (hk : 400 ≤ k) :
    tontinelaw25_LowLevels.j1 (k + 1) x y false p q pl dm la lb = some true := by
  rw [tontinelaw25_LowLevels.j1, if_neg (by decide)]
  by_cases h : x.length = y.length
  · rw [if_pos (by omega), levels_f p q pl dm x y la lb (by omega) (by omega) k (by rw [h4]; omega), bind_some', levS_lo dm x y la lb h (fun i hi_ => hl i (by omega))]
  · rw [if_neg (by omega)]
theorem LowLevels : ∀ (x0 : List Int) (x1 : List Int) (x2 : Int) (x3 : Int), (x0.length ≤ 9223372036854775807 ∧ ∀ y ∈ x0, (0 ≤ y ∧ y ≤ 255)) → (x1.length ≤ 9223372036854775807 ∧ ∀ y ∈ x1, (0 ≤ y ∧ y ≤ 255)) → (0 ≤ x2 ∧ x2 ≤ 255) → (0 ≤ x3 ∧ x3 ≤ 255) → ∃ k, tontinelaw25_LowLevels.f k x0 x1 x2 x3 = some true := by
  intro a b d n _ _ hd _
  refine ⟨2000, ?_⟩
  have hkn : ext_7.f = some true := rfl
  unfold tontinelaw25_LowLevels.f
  rw [hkn, bind_some', if_pos rfl]
  have yes : tontinelaw25_LowLevels.j0 2000 a b d true = some true := by rw [show (2000 : Nat) = 1999 + 1 from rfl, tontinelaw25_LowLevels.j0, if_pos rfl]
  by_cases ca : (a.length : Int) > 40
  · rw [if_pos ca]; exact yes
  rw [if_neg ca]
  by_cases cb : (b.length : Int) > 40
  · rw [decide_eq_true cb]; exact yes
  rw [decide_eq_false cb, show (2000 : Nat) = 1999 + 1 from rfl, tontinelaw25_LowLevels.j0, if_neg (by decide)]
  obtain ⟨p, q, pl, dm, hb, h4, hl⟩ := base_f
  obtain ⟨x, hx, lx⟩ := take_f a (by omega) 1999 (by omega)
  obtain ⟨y, hy, ly⟩ := take_f b (by omega) 1999 (by omega)
  have t0 : 0 ≤ Int.tmod d 4 := Int.tmod_nonneg 4 hd.1
  have t1 : Int.tmod d 4 < ((4 : Nat) : Int) := Int.tmod_lt_of_pos d (by decide)
  rw [hb, bind_some', hx, bind_some', hy, bind_some']
  dsimp only
  rw [h4, if_pos t0, if_pos t1, if_pos (by decide)]
  have F : ∀ (u v : List (List Int)) (la lb : Int), u.length ≤ 40 → low_Levels.f 1999 p q pl dm u v la lb = some (levS dm u v la lb) := fun u v la lb h => levels_f p q pl dm u v la lb (by omega) (by omega) 1999 (by rw [h4]; omega)
  have E := end_f p q pl dm h4 _ _ hl x y lx 1998 (by omega)
  rw [F x y _ _ lx, bind_some', F y x _ _ ly, bind_some', levS_symm dm y x, if_neg (by simp), F x x _ _ lx, levS_self]
  cases hs : levS dm x y (rd_T46 dm (Int.tmod d 4)).f0.f0 (rd_T46 dm (Int.tmod d 4)).f0.f1 with
  | true =>
    have len := levS_len hs
    rw [if_pos rfl, F x y _ _ lx, bind_some', levS_lo dm x y _ _ len (fun i h => hl i (by omega)), if_pos rfl, bind_some', if_pos rfl, if_pos (by omega)]
    exact E
  | false =>
    rw [if_neg (by decide), bind_some', if_pos rfl]
    split
    · exact E
    · exact E
end Go.Proofs.Ytnnkmkejcmdjpaa.Pure
