/- The joint texts beside what the law's loop gathers. -/
import Derived.Test.YtlmllmbbdlkknaaDoorJntInj
import Derived.Test.YtlmllmbbdlkknaaDoorJoj
namespace Go.Proofs.YtlmllmbbdlkknaaDoor.P
open Go Go.RowKit Go.Proofs.YtlmllmbbdlkknaaDoorW.PrintWords Go.Proofs.YtlmllmbbdlkknaaDoorW.PrintLast
theorem same_iff (tr ts : List (List S35)) (doms : List S46) (la lb : Int) (n : Nat) : sameN tr ts doms la lb n = true ↔ ∀ d ∈ belowL doms la lb n, sameO (rd_L4 tr (d : Int)) (rd_L4 ts (d : Int)) = true := by
  unfold sameN belowL rowN
  rw [List.all_eq_true]
  constructor
  · intro h d hd
    obtain ⟨h1, h2⟩ := List.mem_filter.1 hd
    have := h d h1
    rw [h2] at this
    simpa using this
  · intro h d hd
    cases hl : lowB doms la lb d with
    | true => rw [h d (List.mem_filter.2 ⟨hd, hl⟩)]; rfl
    | false => simp
theorem joint_tells (tr ts : List (List S35)) (doms : List S46) (la lb : Int) (n : Nat) (hF : ∀ d < n, Fine tr ts d) : (jointL tr (belowL doms la lb n) = jointL ts (belowL doms la lb n)) ↔ sameN tr ts doms la lb n = true := by
  rw [same_iff]
  constructor
  · exact joint_inj tr ts _ (fun d hd => hF d (List.mem_range.1 (List.mem_filter.1 hd).1))
  · exact joint_same tr ts _
theorem more_same (tr ts : List (List S35)) (doms : List S46) (la lb ma mb : Int) (n : Nat) (h : sameN tr ts doms (mx la ma) (bits .or .u64 lb mb) n = true) : sameN tr ts doms la lb n = true := by
  rw [same_iff] at h ⊢
  intro d hd
  obtain ⟨h1, h2⟩ := List.mem_filter.1 hd
  exact h d (List.mem_filter.2 ⟨h1, low_join doms la lb ma mb d (.inl h2)⟩)
end Go.Proofs.YtlmllmbbdlkknaaDoor.P
