/- TraceJoint, walked by hand. -/
import Derived.Test.YtlmllmbbdlkknaaDoorPx12
import Derived.Test.YtlmllmbbdlkknaaDoorPx7
import Derived.Test.YtlmllmbbdlkknaaDoorPx8
import Derived.Test.YtlmllmbbdlkknaaDoorPx9
import Derived.Test.YtlmllmbbdlkknaaDoorInj
import Derived.Test.YtlmllmbbdlkknaaDoorRefR
import Derived.Test.YtlmllmbbdlkknaaDoorRd
import Derived.Test.YtlmllmbbdlkknaaDoorRv
namespace Go.Proofs.YtlmllmbbdlkknaaDoor.P
open Go Go.RowKit Go.Proofs.YtlmllmbbdlkknaaDoorW.PrintWords Go.Proofs.YtlmllmbbdlkknaaDoorW.PrintLast Go.Proofs.YtlmllmbbdlkknaaDoor.WideR
/-- The law's three variables in memory, and what was there before. -/
def Hd (C L M : Array Value) (w w' : World) : Prop := w'.heap[w.heap.size]? = some (.cells C 25 (0, 0)) ∧ w'.heap[w.heap.size + 1]? = some (.cells L 30 (0, 0)) ∧ w'.heap[w.heap.size + 1 + 1]? = some (.cells M 30 (0, 0)) ∧ Below w.heap.size w w'
theorem Hd.start (C L M : Array Value) (w : World) : Hd C L M w (((w.alloc (.cells C 25)).alloc (.cells L 30)).alloc (.cells M 30)) := by
  refine ⟨?_, ?_, ?_, (((Below.refl w.heap.size w).alloc (Nat.le_refl _) _).alloc (by simp) _).alloc (by simp; omega) _⟩
  · exact blk_alloc (blk_alloc (blk_new w _) _) _
  · have := blk_alloc (blk_new (w.alloc (.cells C 25)) (.cells L 30)) (.cells M 30)
    rwa [World.size_alloc] at this
  · have := blk_new ((w.alloc (.cells C 25)).alloc (.cells L 30)) (.cells M 30)
    rwa [World.size_alloc, World.size_alloc] at this
theorem blk_step {w1 w2 : World} {n : Nat} {o : Obj} (h : w1.heap[n]? = some o) (hb : Below w1.heap.size w1 w2) : w2.heap[n]? = some o := by
  rw [hb.block n (Array.getElem?_eq_some_iff.1 h).1, h]
theorem Hd.step {C L M : Array Value} {w w1 w2 : World} (h : Hd C L M w w1) (hb : Below w1.heap.size w1 w2) : Hd C L M w w2 :=
  ⟨blk_step h.1 hb, blk_step h.2.1 hb, blk_step h.2.2.1 hb, h.2.2.2.trans (hb.mono h.2.2.2.size)⟩
theorem Hd.drew {C L M : Array Value} {w w1 : World} (h : Hd C L M w w1) : Hd C L M w w1.drew := h.step (below_drew (Below.refl _ _))
theorem Hd.cellC {a b c d : Value} {L M : Array Value} {w w1 : World} (h : Hd #[a, b, c, d] L M w w1) : w1.cell? ⟨w.heap.size, 0, none⟩ = some a ∧ w1.cell? ⟨w.heap.size, 1, none⟩ = some b ∧ w1.cell? ⟨w.heap.size, 2, none⟩ = some c ∧ w1.cell? ⟨w.heap.size, 3, none⟩ = some d :=
  ⟨(blk_cell h.1 0).trans rfl, (blk_cell h.1 1).trans rfl, (blk_cell h.1 2).trans rfl, (blk_cell h.1 3).trans rfl⟩
theorem Hd.cellL {a b : Value} {C M : Array Value} {w w1 : World} (h : Hd C #[a, b] M w w1) : w1.cell? ⟨w.heap.size + 1, 0, none⟩ = some a ∧ w1.cell? ⟨w.heap.size + 1, 1, none⟩ = some b :=
  ⟨(blk_cell h.2.1 0).trans rfl, (blk_cell h.2.1 1).trans rfl⟩
theorem Hd.cellM {a b : Value} {C L : Array Value} {w w1 : World} (h : Hd C L #[a, b] w w1) : w1.cell? ⟨w.heap.size + 1 + 1, 0, none⟩ = some a ∧ w1.cell? ⟨w.heap.size + 1 + 1, 1, none⟩ = some b :=
  ⟨(blk_cell h.2.2.1 0).trans rfl, (blk_cell h.2.2.1 1).trans rfl⟩
theorem seen_f (o : S35) : tontinelaw24_seen.f o.f0 o.f1 o.f2 o.f3 o.f4 o.f5 = some (seenB o) := by
  unfold tontinelaw24_seen.f seenB
  by_cases h1 : o.f1 = 2
  · rw [if_pos h1, h1]; rfl
  · rw [if_neg h1]
    by_cases h2 : o.f1 = 1
    · rw [if_pos h2, h2]
      by_cases h3 : o.f3 = 0
      · rw [if_pos h3, h3]
        by_cases h4 : o.f4 = 0
        · rw [if_pos h4, h4]; rfl
        · rw [if_neg h4]; simp [h4]
      · rw [if_neg h3]; simp [h3]
    · rw [if_neg h2]; simp [h1, h2]
abbrev rowN (tr : List (List S35)) (d : Nat) : List S35 := rd_L4 tr (d : Int)
theorem seen_take {l : List S35} {o : S35} (i : Nat) (h : i < l.length) (ho : rd_T35 l (i : Int) = o) (h1 : (l.take i).all seenB = true) (h2 : seenB o = true) : (l.take (i + 1)).all seenB = true := by
  have e : l.take (i + 1) = l.take i ++ [l[i]] := (List.take_append_getElem h).symm
  have hr : rd_T35 l (i : Int) = l[i] := by simp [rd_T35, h]
  rw [e, List.all_append, h1, List.all_cons, ← hr, ho, h2]
  rfl
def sameN (tr ts : List (List S35)) (doms : List S46) (la lb : Int) (n : Nat) : Bool := (List.range n).all fun j => sameO (rowN tr j) (rowN ts j) || !lowB doms la lb j
theorem sameN_succ (tr ts : List (List S35)) (doms : List S46) (la lb : Int) (n : Nat) : sameN tr ts doms la lb (n + 1) = (sameN tr ts doms la lb n && (sameO (rowN tr n) (rowN ts n) || !lowB doms la lb n)) := by
  unfold sameN
  rw [List.range_succ, List.all_append]
  simp
set_option maxHeartbeats 1000000 in
set_option maxRecDepth 1000000 in
theorem joi_early (a b : Int) (A2 : Option Addr) (c2 : Nat) (plans : List (List Int)) (A3 : Option Addr) (c3 : Nat) (doms : List S46) (A1 : Option Addr) (c1 : Nat) (tr : List (List S35)) (B1 : Option Addr) (e1 : Nat) (ts : List (List S35)) (la lb ma mb : Int) (w : World) (hld : Lib.TabIs Tryd.prog w "internal/strconv.uint64pow10" .u64 Lib.pow10Tab)
    (hr2 : Kd.C (Kd.slice 3 (Kd.int .i64)) w A2 plans.length plans) (hc2 : plans.length ≤ c2) (hr3 : Kd.C k46 w A3 doms.length doms) (hc3 : doms.length ≤ c3) (_hr1 : Kd.C (Kd.slice 35 k35) w A1 tr.length tr) (_hc1 : tr.length ≤ c1) (_hs1 : Kd.C (Kd.slice 35 k35) w B1 ts.length ts) (_he1 : ts.length ≤ e1)
    (kn : tontinelaw24_known.f 40 = some true) (K2 : Nat) (wi : tontinehelp_WideConf.f K2 a b plans doms = some (wideB plans doms))
    (hg : ¬ (wideB plans doms = false ∧ tr.length ≤ 10 ∧ ts.length ≤ 10 ∧ tr.length = doms.length ∧ ts.length = doms.length)) :
    Calls Tryd.prog 5 #[.agg #[.int .i64 a, .int .i64 b, .slice A2 plans.length c2, .slice A3 doms.length c3], .slice A1 tr.length c1, .slice B1 ts.length e1, .agg #[.int .i64 la, .int .u64 lb], .agg #[.int .i64 ma, .int .u64 mb]] w fun e w' => e = .returned (.bool true) ∧ Below w.heap.size w w' := by
  have hcase : wideB plans doms = true ∨ wideB plans doms = false ∧ ((10 : Int) < (tr.length : Int) ∨ ¬ (10 : Int) < (tr.length : Int) ∧ ((10 : Int) < (ts.length : Int) ∨ ¬ (10 : Int) < (ts.length : Int) ∧ (((tr.length : Int) != (doms.length : Int)) = true ∨ ((tr.length : Int) != (doms.length : Int)) = false ∧ ((ts.length : Int) != (doms.length : Int)) = true))) := by
    cases hb : wideB plans doms with
    | true => exact .inl rfl
    | false =>
      refine .inr ⟨rfl, ?_⟩
      by_cases c1 : (10 : Int) < (tr.length : Int)
      · exact .inl c1
      · refine .inr ⟨c1, ?_⟩
        by_cases c2 : (10 : Int) < (ts.length : Int)
        · exact .inl c2
        · refine .inr ⟨c2, ?_⟩
          simp only [bne_iff_ne, ne_eq, bne_eq_false_iff_eq]
          by_cases c3 : (tr.length : Int) = (doms.length : Int)
          · refine .inr ⟨c3, fun c4 => hg ⟨hb, by omega, by omega, by omega, by omega⟩⟩
          · exact .inl c3
  rcases hcase with hw | ⟨hw, g1 | ⟨g1, g2 | ⟨g2, g3 | ⟨g3, g4⟩⟩⟩⟩
  all_goals (
    go_enter Tryd.func5, Tryd.ntmps5
    have y0 := Hd.start #[.int .i64 a, .int .i64 b, .slice A2 plans.length c2, .slice A3 doms.length c3] #[.int .i64 la, .int .u64 lb] #[.int .i64 ma, .int .u64 mb] w
    go_wp2_with (first
      | (go_at_call 7
         refine (tontinelaw24_known.calls 40 true rfl _ (Goto.kt y0.2.2.2 hld) kn).mono ?_
         rintro e w1 ⟨rfl, hb1⟩
         have y1 := y0.step hb1
         obtain ⟨q0, q1, q2, q3⟩ := y1.cellC)
      | (go_at_call 8
         refine (tontinehelp_WideConf.calls K2 a b A2 c2 plans A3 c3 doms _ _ (Kd.C_below hr2 y1.2.2.2) hc2 (Kd.C_below hr3 y1.2.2.2) hc3 (by rw [wi, hw])).mono ?_
         rintro e w2 ⟨rfl, hb2⟩
         have y2 := y1.step hb2
         obtain ⟨u0, u1, u2, u3⟩ := y2.cellC))
    all_goals (go_ret; exact ⟨rfl, y2.2.2.2⟩))
end Go.Proofs.YtlmllmbbdlkknaaDoor.P
