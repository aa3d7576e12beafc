/- TraceBelow's plain law: who is below two labels is below what both have in common; who is below one is below both together; each is below his own. -/
import Derived.Test.YtlmllmbbdlkknaaDoorPx9
import Derived.Test.YtlmllmbbdlkknaaDoorBelowR
namespace Go.Proofs.YtlmllmbbdlkknaaDoor.Pure
open Go Go.RowKit Go.Proofs.YtlmllmbbdlkknaaDoor Go.Proofs.YtlmllmbbdlkknaaDoor.P Go.Proofs.YtlmllmbbdlkknaaDoor.Bits64 Go.Proofs.YtlmllmbbdlkknaaDoor.WideR Go.Proofs.YtlmllmbbdlkknaaDoorW.PrintWords Go.Proofs.YtlmllmbbdlkknaaDoorW.PrintLast
theorem known_k : tontinelaw24_known.f 40 = some true := by decide +kernel
theorem known_f : Ev (fun k => tontinelaw24_known.f k) true := Ev.of (g := fun k => tontinelaw24_known.f k) (fun k => tontinelaw24_known.mono k) known_k
theorem rounds_ (a b : Int) (plans : List (List Int)) (doms : List S46) (la lb ma mb : Int) (n : Nat) (hn : n = doms.length) (h20 : n ≤ 20) (tr : List (List S35)) (htr : tr.length = n) : ∀ (m d k : Nat), d + m = n → 2 * m + 40 ≤ k →
    tontinelaw24_TraceBelow.l0 k tr ((belowL doms la lb n).map Int.ofNat) ((belowL doms ma mb n).map Int.ofNat) ((belowL doms (mx la ma) (bits .or .u64 lb mb) n).map Int.ofNat) ((belowL doms (mn la ma) (bits .and .u64 lb mb) n).map Int.ofNat) (d : Int) a b plans doms la lb = some true := by
  intro m
  induction m with
  | zero =>
    intro d k hd hk
    obtain ⟨k, rfl⟩ : ∃ q, k = q + 1 := ⟨k - 1, by omega⟩
    simp only [tontinelaw24_TraceBelow.l0]
    rw [if_neg (by omega), below_k a b plans doms [] la lb (by omega) k (by omega)]
    simp [belowL]
  | succ m ih =>
    intro d k hd hk
    obtain ⟨k, rfl⟩ : ∃ q, k = q + 2 := ⟨k - 2, by omega⟩
    have h := ih (d + 1) k (by omega) (by omega)
    have hw : wrap64 ((d : Int) + 1) = ((d + 1 : Nat) : Int) := by unfold wrap64; omega
    have hdn : d < n := by omega
    have step : tontinelaw24_TraceBelow.j1 (k + 1) tr ((belowL doms la lb n).map Int.ofNat) ((belowL doms ma mb n).map Int.ofNat) ((belowL doms (mx la ma) (bits .or .u64 lb mb) n).map Int.ofNat) ((belowL doms (mn la ma) (bits .and .u64 lb mb) n).map Int.ofNat) (d : Int) false a b plans doms la lb = some true := by
      simp only [tontinelaw24_TraceBelow.j1]
      rw [if_neg (by decide), hw, h]
    have e1 := has_below doms la lb n d hdn h20
    have e2 := has_below doms ma mb n d hdn h20
    have e3 := has_below doms (mn la ma) (bits .and .u64 lb mb) n d hdn h20
    have e4 := has_below doms (mx la ma) (bits .or .u64 lb mb) n d hdn h20
    have e5 := below_k a b plans doms tr (rd_T46 doms d).f0.f0 (rd_T46 doms d).f0.f1 (by omega) (k + 1) (by omega)
    rw [show min doms.length tr.length = n by omega] at e5
    have e6 := has_below doms (rd_T46 doms d).f0.f0 (rd_T46 doms d).f0.f1 n d hdn h20
    rw [low_own] at e6
    rw [low_meet] at e3
    have e7 := low_join doms la lb ma mb d
    simp only [tontinelaw24_TraceBelow.l0]
    rw [if_pos (by omega), e1, e2, e3, e4, e5]
    simp only [Option.bind_some, e6]
    rw [if_pos (show (0 : Int) ≤ (d : Int) by omega)]
    cases hp : lowB doms la lb d <;> cases hq : lowB doms ma mb d <;> simp only [hp, hq] at e7
    · simpa using step
    · have e8 := e7 (.inr trivial)
      rw [e8]
      simpa using step
    · have e8 := e7 (.inl trivial)
      rw [e8]
      simpa using step
    · have e8 := e7 (.inl trivial)
      rw [e8]
      simpa using step
theorem TraceBelow : ∀ (x0 : S25) (x1 : S30) (x2 : S30), wf25 x0 → wf30 x1 → wf30 x2 → ∃ k, tontinelaw24_TraceBelow.f k x0.f0 x0.f1 x0.f2 x0.f3 x1.f0 x1.f1 x2.f0 x2.f1 = some true := by
  rintro ⟨a, b, plans, doms⟩ ⟨la, lb⟩ ⟨ma, mb⟩ hw _ _
  obtain ⟨_, _, hp, hd⟩ := hw
  dsimp only at hp hd ⊢
  have hdr : ∀ d ∈ doms, d.f1.length ≤ 9223372036854775807 := fun d h => (hd.2 d h).2.1.1
  obtain ⟨K1, h1⟩ := known_f
  obtain ⟨K2, h2⟩ := wide_f a b plans doms hp.1 hd.1 hdr
  refine ⟨K1 + K2 + 200, ?_⟩
  have g1 : tontinelaw24_known.f (K1 + K2 + 200) = some true := h1 _ (by omega)
  have g2 : tontinehelp_WideConf.f (K1 + K2 + 200) a b plans doms = some (wideB plans doms) := h2 _ (by omega)
  unfold tontinelaw24_TraceBelow.f
  rw [g1, g2]
  simp only [Option.bind_some, if_true]
  cases hwi : wideB plans doms with
  | true => rfl
  | false =>
    have hl := wide_len hwi
    have hb := fun x y => below_k a b plans doms (List.replicate doms.length []) x y (by omega) (K1 + K2 + 200) (by omega)
    simp only [List.length_replicate, Nat.min_self] at hb
    rw [if_neg (by decide), if_pos (by omega), if_pos (by omega)]
    unfold tontineref1_Join.f tontineref1_Meet.f
    simp only [Option.bind_some, hb, Int.toNat_natCast]
    exact rounds_ a b plans doms la lb ma mb doms.length rfl (by omega) (List.replicate doms.length []) (by simp) doms.length 0 _ (by omega) (by omega)
end Go.Proofs.YtlmllmbbdlkknaaDoor.Pure
