/- TraceJoint's contract: it answers true. -/
import Derived.Test.YtlmllmbbdlkknaaDoorJoi
namespace Go.Proofs.YtlmllmbbdlkknaaDoor.P
open Go Go.RowKit Go.Proofs.YtlmllmbbdlkknaaDoorW.PrintWords Go.Proofs.YtlmllmbbdlkknaaDoorW.PrintLast Go.Proofs.YtlmllmbbdlkknaaDoor.WideR
def okAll (plans : List (List Int)) (doms : List S46) (tr ts : List (List S35)) : Bool :=
  decide (plans.length ≤ 9223372036854775807) && decide (doms.length ≤ 9223372036854775807) && doms.all (fun d => decide (d.f1.length ≤ 9223372036854775807)) && tr.all (fun l => l.all okO) && ts.all (fun l => l.all okO)
def ext_5.f (_a _b : Int) (plans : List (List Int)) (doms : List S46) (tr ts : List (List S35)) (_la _lb _ma _mb : Int) : Option Bool := if okAll plans doms tr ts then some true else none
theorem knownT_k : tontinelaw24_known.f 40 = some true := by decide +kernel
theorem ext_5.calls (a b : Int) (A2 : Option Addr) (c2 : Nat) (plans : List (List Int)) (A3 : Option Addr) (c3 : Nat) (doms : List S46) (A1 : Option Addr) (c1 : Nat) (tr : List (List S35)) (B1 : Option Addr) (e1 : Nat) (ts : List (List S35)) (la lb ma mb : Int) (r : Bool) (w : World) (hld : Lib.TabIs Tryd.prog w "internal/strconv.uint64pow10" .u64 Lib.pow10Tab)
    (hr2 : Kd.C (Kd.slice 3 (Kd.int .i64)) w A2 plans.length plans) (hc2 : plans.length ≤ c2) (hr3 : Kd.C k46 w A3 doms.length doms) (hc3 : doms.length ≤ c3) (hr1 : Kd.C (Kd.slice 35 k35) w A1 tr.length tr) (hc1 : tr.length ≤ c1) (hs1 : Kd.C (Kd.slice 35 k35) w B1 ts.length ts) (he1 : ts.length ≤ e1) (h : ext_5.f a b plans doms tr ts la lb ma mb = some r) :
    Calls Tryd.prog 5 #[.agg #[.int .i64 a, .int .i64 b, .slice A2 plans.length c2, .slice A3 doms.length c3], .slice A1 tr.length c1, .slice B1 ts.length e1, .agg #[.int .i64 la, .int .u64 lb], .agg #[.int .i64 ma, .int .u64 mb]] w fun e w' => e = .returned (.bool r) ∧ Below w.heap.size w w' := by
  unfold ext_5.f at h
  split at h
  · rename_i hok
    obtain rfl := Option.some.inj h
    unfold okAll at hok
    simp only [Bool.and_eq_true, decide_eq_true_eq, List.all_eq_true] at hok
    obtain ⟨⟨⟨⟨p1, p2⟩, p3⟩, p4⟩, p5⟩ := hok
    obtain ⟨K2, wi⟩ := wide_f a b plans doms p1 p2 p3
    by_cases hg : wideB plans doms = false ∧ tr.length ≤ 10 ∧ ts.length ≤ 10 ∧ tr.length = doms.length ∧ ts.length = doms.length
    · obtain ⟨g1, g2, g3, g4, g5⟩ := hg
      exact joi_main a b A2 c2 plans A3 c3 doms A1 c1 tr B1 e1 ts la lb ma mb w hld hr2 hc2 hr3 hc3 hr1 hc1 hs1 he1 knownT_k K2 (wi K2 (Nat.le_refl _)) (fun l hl => List.all_eq_true.2 (p4 l hl)) (fun l hl => List.all_eq_true.2 (p5 l hl)) g1 g2 g3 g4 g5
    · exact joi_early a b A2 c2 plans A3 c3 doms A1 c1 tr B1 e1 ts la lb ma mb w hld hr2 hc2 hr3 hc3 hr1 hc1 hs1 he1 knownT_k K2 (wi K2 (Nat.le_refl _)) hg
  · cases h
end Go.Proofs.YtlmllmbbdlkknaaDoor.P
