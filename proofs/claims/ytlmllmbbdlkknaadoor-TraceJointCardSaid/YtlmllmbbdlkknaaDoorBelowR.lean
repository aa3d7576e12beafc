/- trace.Below, Join, Meet, 'has' of the printed functions, for whatever number of rounds; what is below which label. -/
import Derived.Test.YtlmllmbbdlkknaaDoorPx12
import Derived.Test.YtlmllmbbdlkknaaDoorPx14
import Derived.Test.YtlmllmbbdlkknaaDoorHas
import Derived.Test.YtlmllmbbdlkknaaDoorJnt
import Derived.Test.YtlmllmbbdlkknaaDoorWideR
import Derived.Test.YtlmllmbbdlkknaaDoorBits64
namespace Go.Proofs.YtlmllmbbdlkknaaDoor.P
open Go Go.RowKit Go.Proofs.YtlmllmbbdlkknaaDoor Go.Proofs.YtlmllmbbdlkknaaDoor.Bits64 Go.Proofs.YtlmllmbbdlkknaaDoor.WideR Go.Proofs.YtlmllmbbdlkknaaDoorW.PrintWords Go.Proofs.YtlmllmbbdlkknaaDoorW.PrintLast
theorem below_k (a b : Int) (plans : List (List Int)) (doms : List S46) (tr : List (List S35)) (la lb : Int) (h20 : doms.length ≤ 20) (k : Nat) (hk : 20 < k) :
    trace_Below.f k a b plans doms tr la lb = some ((belowL doms la lb (min doms.length tr.length)).map Int.ofNat) := by
  unfold trace_Below.f
  have hm : mn (doms.length : Int) (tr.length : Int) = ((min doms.length tr.length : Nat) : Int) := by unfold mn; omega
  rw [hm]
  have := below_l a b plans doms la lb (min doms.length tr.length) (by omega) h20 (min doms.length tr.length) 0 k (by omega) (by omega)
  simpa [belowL] using this
theorem mem_below (doms : List S46) (la lb : Int) (n d : Nat) (hd : d < n) : decide ((d : Int) ∈ (belowL doms la lb n).map Int.ofNat) = lowB doms la lb d := by
  rw [Bool.eq_iff_iff, decide_eq_true_eq, List.mem_map]
  constructor
  · rintro ⟨e, he, h⟩
    obtain rfl : e = d := Int.ofNat.inj h
    exact (List.mem_filter.1 he).2
  · intro h
    exact ⟨d, List.mem_filter.2 ⟨List.mem_range.2 hd, h⟩, rfl⟩
theorem has_below (doms : List S46) (la lb : Int) (n d : Nat) (hd : d < n) (hn : n ≤ 20) : ext_24.f ((belowL doms la lb n).map Int.ofNat) (d : Int) = some (lowB doms la lb d) := by
  have hl := belowL_len doms la lb n
  unfold ext_24.f
  rw [if_pos (by rw [List.length_map]; omega), mem_below doms la lb n d hd]
theorem lowB_iff (doms : List S46) (la lb : Int) (d : Nat) : lowB doms la lb d = true ↔ (rd_T46 doms d).f0.f0 ≤ la ∧ Sub (B (rd_T46 doms d).f0.f1) (B lb) := by
  unfold lowB
  rw [Bool.and_eq_true, decide_eq_true_eq, beq_iff_eq, andNot_zero]
theorem B_or (x y : Int) : B (bits .or .u64 x y) = B x ||| B y := by rw [or_eq, B_I]
theorem B_and (x y : Int) : B (bits .and .u64 x y) = B x &&& B y := by rw [and_eq, B_I]
theorem low_meet (doms : List S46) (a b c e : Int) (d : Nat) : lowB doms (mn a c) (bits .and .u64 b e) d = (lowB doms a b d && lowB doms c e d) := by
  rw [Bool.eq_iff_iff, Bool.and_eq_true, lowB_iff, lowB_iff, lowB_iff, B_and, sub_and]
  unfold mn
  constructor
  · rintro ⟨h1, h2, h3⟩
    exact ⟨⟨by omega, h2⟩, ⟨by omega, h3⟩⟩
  · rintro ⟨⟨h1, h2⟩, ⟨h3, h4⟩⟩
    exact ⟨by omega, h2, h4⟩
theorem sub_or_left (u v : BitVec 64) : Sub u (u ||| v) := fun i hi => by rw [BitVec.getLsbD_or, hi, Bool.true_or]
theorem sub_or_right (u v : BitVec 64) : Sub v (u ||| v) := fun i hi => by rw [BitVec.getLsbD_or, hi, Bool.or_true]
theorem low_join (doms : List S46) (a b c e : Int) (d : Nat) (h : lowB doms a b d = true ∨ lowB doms c e d = true) : lowB doms (mx a c) (bits .or .u64 b e) d = true := by
  rw [lowB_iff, lowB_iff] at h
  rw [lowB_iff, B_or]
  unfold mx
  rcases h with ⟨h1, h2⟩ | ⟨h1, h2⟩
  · exact ⟨by omega, h2.trans (sub_or_left _ _)⟩
  · exact ⟨by omega, h2.trans (sub_or_right _ _)⟩
theorem low_own (doms : List S46) (d : Nat) : lowB doms (rd_T46 doms d).f0.f0 (rd_T46 doms d).f0.f1 d = true := by
  rw [lowB_iff]
  exact ⟨Int.le_refl _, Sub.refl _⟩
theorem wide_len {plans : List (List Int)} {doms : List S46} (h : wideB plans doms = false) : doms.length ≤ 10 := by
  unfold wideB at h
  simp only [Bool.or_eq_false_iff, decide_eq_false_iff_not] at h
  omega
end Go.Proofs.YtlmllmbbdlkknaaDoor.P
