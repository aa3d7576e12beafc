/- TraceJoint, walked by hand: where all is as it should be. -/
import Derived.Test.YtlmllmbbdlkknaaDoorJntEnd
namespace Go.Proofs.YtlmllmbbdlkknaaDoor.P
open Go Go.RowKit Go.Proofs.YtlmllmbbdlkknaaDoorW.PrintWords Go.Proofs.YtlmllmbbdlkknaaDoorW.PrintLast Go.Proofs.YtlmllmbbdlkknaaDoor.WideR
set_option maxHeartbeats 40000000 in
set_option maxRecDepth 1000000 in
theorem joi_main (a b : Int) (A2 : Option Addr) (c2 : Nat) (plans : List (List Int)) (A3 : Option Addr) (c3 : Nat) (doms : List S46) (A1 : Option Addr) (c1 : Nat) (tr : List (List S35)) (B1 : Option Addr) (e1 : Nat) (ts : List (List S35)) (la lb ma mb : Int) (w : World) (hld : Lib.TabIs Tryd.prog w "internal/strconv.uint64pow10" .u64 Lib.pow10Tab)
    (hr2 : Kd.C (Kd.slice 3 (Kd.int .i64)) w A2 plans.length plans) (hc2 : plans.length ≤ c2) (hr3 : Kd.C k46 w A3 doms.length doms) (hc3 : doms.length ≤ c3) (hr1 : Kd.C (Kd.slice 35 k35) w A1 tr.length tr) (hc1 : tr.length ≤ c1) (hs1 : Kd.C (Kd.slice 35 k35) w B1 ts.length ts) (he1 : ts.length ≤ e1)
    (kn : tontinelaw24_known.f 40 = some true) (K2 : Nat) (wi : tontinehelp_WideConf.f K2 a b plans doms = some (wideB plans doms))
    (okr : ∀ l ∈ tr, l.all okO = true) (oks : ∀ l ∈ ts, l.all okO = true) (hw : wideB plans doms = false) (h1 : tr.length ≤ 10) (h2 : ts.length ≤ 10) (h3 : tr.length = doms.length) (h4 : ts.length = doms.length) :
    Calls Tryd.prog 5 #[.agg #[.int .i64 a, .int .i64 b, .slice A2 plans.length c2, .slice A3 doms.length c3], .slice A1 tr.length c1, .slice B1 ts.length e1, .agg #[.int .i64 la, .int .u64 lb], .agg #[.int .i64 ma, .int .u64 mb]] w fun e w' => e = .returned (.bool true) ∧ Below w.heap.size w w' := by
  have g1 : ¬ (10 : Int) < (tr.length : Int) := by omega
  have g2 : ¬ (10 : Int) < (ts.length : Int) := by omega
  have g3 : ((tr.length : Int) != (doms.length : Int)) = false := by simp [h3]
  have g4 : ((ts.length : Int) != (doms.length : Int)) = false := by simp [h4]
  have H3 := Goto.m0 h3
  have H4 := Goto.m0 h4
  clear h3 h4
  go_enter Tryd.func5, Tryd.ntmps5
  have h0 := Hd.start #[.int .i64 a, .int .i64 b, .slice A2 plans.length c2, .slice A3 doms.length c3] #[.int .i64 la, .int .u64 lb] #[.int .i64 ma, .int .u64 mb] w
  go_wp2_with (first
    | (go_at_call 7
       refine (tontinelaw24_known.calls 40 true rfl _ (Goto.kt h0.2.2.2 hld) kn).mono ?_
       rintro e w1 ⟨rfl, hb1⟩
       have y1 := h0.step hb1
       obtain ⟨q0, q1, q2, q3⟩ := y1.cellC)
    | (go_at_call 8
       refine (tontinehelp_WideConf.calls K2 a b A2 c2 plans A3 c3 doms _ _ (Kd.C_below hr2 y1.2.2.2) hc2 (Kd.C_below hr3 y1.2.2.2) hc3 (by rw [wi, hw])).mono ?_
       rintro e w2 ⟨rfl, hb2⟩
       have y2 := y1.step hb2
       obtain ⟨u0, u1, u2, u3⟩ := y2.cellC))
  go_loopw [11, 12, 13] (fun v1 v2 v3 wr => ∃ d : Nat, d ≤ tr.length ∧ v1 = .bool (sameN tr ts doms la lb d) ∧ v2 = .bool (sameN tr ts doms (mx la ma) (bits .or .u64 lb mb) d) ∧ v3 = .int .i64 (d : Nat) ∧
      (∀ j < d, (rowN tr j).length ≤ 60 ∧ (rowN ts j).length ≤ 60 ∧ (rowN tr j).all seenB = true ∧ (rowN ts j).all seenB = true) ∧
      Hd #[.int .i64 a, .int .i64 b, .slice A2 plans.length c2, .slice A3 doms.length c3] #[.int .i64 la, .int .u64 lb] #[.int .i64 ma, .int .u64 mb] w wr)
    (fun _ _ v _ => tr.length - (Lib.intOf v).toNat)
  case atStart => exact ⟨0, Nat.zero_le _, rfl, rfl, rfl, fun j hj => by omega, y2⟩
  case round =>
    clear u0 u1 u2 u3 q0 q1 q2 q3
    obtain ⟨d, hd, rfl, rfl, rfl, hrows, hW⟩ := hrel
    obtain ⟨u0, u1, u2, u3⟩ := hW.cellC
    obtain ⟨ul0, ul1⟩ := hW.cellL
    obtain ⟨um0, um1⟩ := hW.cellM
    by_cases hlt : d < tr.length
    · have hdl : (d : Int) < (tr.length : Int) := by omega
      have hdm : (d : Int) < (ts.length : Int) := by have := H3.out; have := H4.out; omega
      obtain ⟨ad1, R0, r0, rfl, hc00, hcl, hCd0⟩ := at_L4 hr1 (d : Int) (by omega) (by omega)
      obtain ⟨ad2, S0, s0, rfl, hd00, hdl0, hDd0⟩ := at_L4 hs1 (d : Int) (by omega) (by omega)
      simp only [Int.toNat_natCast] at hc00 hd00
      generalize hra : rd_L4 tr (d : Int) = ra at hc00 hcl hCd0
      generalize hrb : rd_L4 ts (d : Int) = rb at hd00 hdl0 hDd0
      have hc0 := Goto.kc hW.2.2.2 hc00
      have hd0 := Goto.kc hW.2.2.2 hd00
      by_cases ca : ra.length ≤ 60
      · by_cases cb : rb.length ≤ 60
        · have ca' : ¬ (60 : Int) < (ra.length : Int) := by omega
          have cb' : ¬ (60 : Int) < (rb.length : Int) := by omega
          have hsum : IntKind.i64.wrap ((ra.length : Int) + (rb.length : Int)) = (ra.length : Int) + (rb.length : Int) := by
            simp [IntKind.wrap, IntKind.bits, IntKind.signed]; omega
          go_wp2
          go_loopw [14] (fun v wr => ∃ i : Nat, i ≤ ra.length + rb.length ∧ v = .int .i64 (i : Nat) ∧ (ra.take i).all seenB = true ∧ (rb.take (i - ra.length)).all seenB = true ∧
              Hd #[.int .i64 a, .int .i64 b, .slice A2 plans.length c2, .slice A3 doms.length c3] #[.int .i64 la, .int .u64 lb] #[.int .i64 ma, .int .u64 mb] w wr)
            (fun v _ => ra.length + rb.length - (Lib.intOf v).toNat)
          case atStart => exact ⟨0, Nat.zero_le _, rfl, rfl, by rw [Nat.zero_sub]; rfl, hW⟩
          case round =>
            obtain ⟨i, hi, rfl, hsa, hsb, hV⟩ := hrel
            have hc1 := Goto.kc hV.2.2.2 hc00
            have hd1 := Goto.kc hV.2.2.2 hd00
            go_wp2_with fail
            refine Rv.region (a' := ?aa) (S := fun w' => Hd #[.int .i64 a, .int .i64 b, .slice A2 plans.length c2, .slice A3 doms.length c3] #[.int .i64 la, .int .u64 lb] #[.int .i64 ma, .int .u64 mb] w w' ∧ w'.cell? (ad1.add d) = some (.slice R0 ra.length r0) ∧ w'.cell? (ad2.add d) = some (.slice S0 rb.length s0)) (by kernel_rfl) (by kernel_rfl) ⟨hV.drew, hc1, hd1⟩ ?seq ?next
            case seq =>
              dsimp only
              iterate 13 refine Rv.sv ?_
              exact .nil
            case next =>
              clear hc1 hd1 hV
              rintro w3 ⟨hV, hc1, hd1⟩
              by_cases hil : i < ra.length + rb.length
              · have hil' : (i : Int) < (ra.length : Int) + (rb.length : Int) := by omega
                by_cases hia : i < ra.length
                · have hia' : (i : Int) < (ra.length : Int) := by omega
                  have hia2 : ¬ ra.length ≤ i := by omega
                  have hia3 : decide ((ra.length : Int) ≤ (i : Int)) = false := decide_eq_false (by omega)
                  obtain ⟨ad, rfl, f0, f1, f2, f3, f4, f5⟩ := at_T35 (Kd.C_below hCd0 hV.2.2.2) (i : Int) (by omega) (by omega)
                  simp only [Int.toNat_natCast] at f0 f1 f2 f3 f4 f5
                  generalize ho : rd_T35 ra (i : Int) = o at f0 f1 f2 f3 f4 f5
                  have hS : ∀ w1 w2 : World, (Hd #[.int .i64 a, .int .i64 b, .slice A2 plans.length c2, .slice A3 doms.length c3] #[.int .i64 la, .int .u64 lb] #[.int .i64 ma, .int .u64 mb] w w1 ∧ w1.cell? (ad1.add d) = some (.slice (some ad) ra.length r0) ∧ w1.cell? (ad2.add d) = some (.slice S0 rb.length s0) ∧ w1.cell? (ad.add (i * 6)) = some (.int .i64 o.f0) ∧ w1.cell? ⟨(ad.add (i * 6)).block, (ad.add (i * 6)).off + 1, none⟩ = some (.int .i64 o.f1) ∧ w1.cell? ⟨(ad.add (i * 6)).block, (ad.add (i * 6)).off + 2, none⟩ = some (.int .i64 o.f2) ∧ w1.cell? ⟨(ad.add (i * 6)).block, (ad.add (i * 6)).off + 3, none⟩ = some (.int .i64 o.f3) ∧ w1.cell? ⟨(ad.add (i * 6)).block, (ad.add (i * 6)).off + 4, none⟩ = some (.int .i64 o.f4) ∧ w1.cell? ⟨(ad.add (i * 6)).block, (ad.add (i * 6)).off + 5, none⟩ = some (.int .i64 o.f5)) → Below w1.heap.size w1 w2 → (Hd #[.int .i64 a, .int .i64 b, .slice A2 plans.length c2, .slice A3 doms.length c3] #[.int .i64 la, .int .u64 lb] #[.int .i64 ma, .int .u64 mb] w w2 ∧ w2.cell? (ad1.add d) = some (.slice (some ad) ra.length r0) ∧ w2.cell? (ad2.add d) = some (.slice S0 rb.length s0) ∧ w2.cell? (ad.add (i * 6)) = some (.int .i64 o.f0) ∧ w2.cell? ⟨(ad.add (i * 6)).block, (ad.add (i * 6)).off + 1, none⟩ = some (.int .i64 o.f1) ∧ w2.cell? ⟨(ad.add (i * 6)).block, (ad.add (i * 6)).off + 2, none⟩ = some (.int .i64 o.f2) ∧ w2.cell? ⟨(ad.add (i * 6)).block, (ad.add (i * 6)).off + 3, none⟩ = some (.int .i64 o.f3) ∧ w2.cell? ⟨(ad.add (i * 6)).block, (ad.add (i * 6)).off + 4, none⟩ = some (.int .i64 o.f4) ∧ w2.cell? ⟨(ad.add (i * 6)).block, (ad.add (i * 6)).off + 5, none⟩ = some (.int .i64 o.f5)) := by
                    rintro w1 w2 ⟨k0, k1, k2, k3, k4, k5, k6, k7, k8⟩ hb
                    exact ⟨k0.step hb, Goto.kc hb k1, Goto.kc hb k2, Goto.kc hb k3, Goto.kc hb k4, Goto.kc hb k5, Goto.kc hb k6, Goto.kc hb k7, Goto.kc hb k8⟩
                  cases hse : seenB o
                  all_goals (
                    go_wp2_with fail
                    refine Rv.region (a' := ?_) (S := fun w' => Hd #[.int .i64 a, .int .i64 b, .slice A2 plans.length c2, .slice A3 doms.length c3] #[.int .i64 la, .int .u64 lb] #[.int .i64 ma, .int .u64 mb] w w' ∧ w'.cell? (ad1.add d) = some (.slice (some ad) ra.length r0) ∧ w'.cell? (ad2.add d) = some (.slice S0 rb.length s0) ∧ w'.cell? (ad.add (i * 6)) = some (.int .i64 o.f0) ∧ w'.cell? ⟨(ad.add (i * 6)).block, (ad.add (i * 6)).off + 1, none⟩ = some (.int .i64 o.f1) ∧ w'.cell? ⟨(ad.add (i * 6)).block, (ad.add (i * 6)).off + 2, none⟩ = some (.int .i64 o.f2) ∧ w'.cell? ⟨(ad.add (i * 6)).block, (ad.add (i * 6)).off + 3, none⟩ = some (.int .i64 o.f3) ∧ w'.cell? ⟨(ad.add (i * 6)).block, (ad.add (i * 6)).off + 4, none⟩ = some (.int .i64 o.f4) ∧ w'.cell? ⟨(ad.add (i * 6)).block, (ad.add (i * 6)).off + 5, none⟩ = some (.int .i64 o.f5)) (by kernel_rfl) (by kernel_rfl) ⟨hV.drew, hc1, hd1, f0, f1, f2, f3, f4, f5⟩ ?_ ?_
                    rotate_left
                    · dsimp only
                      repeat first
                        | refine Rv.sv ?_
                        | refine Rv.sc (f := 20) (fun w' hs => ((tontinelaw24_seen.calls o.f0 o.f1 o.f2 o.f3 o.f4 o.f5 _ w' ((seen_f o).trans (congrArg some hse))).mono (by
                            rintro e w'' ⟨rfl, hb⟩
                            exact ⟨rfl, hS _ _ hs hb⟩))) ?_
                        | refine Rv.sn ?_
                      exact .nil
                    · rintro w4 ⟨hV4, _, _, _, _, _, _, _, _⟩
                      go_wp2
                      first
                        | (go_ret; exact ⟨rfl, hV4.2.2.2⟩)
                        | (refine ⟨⟨i + 1, by omega, rfl, seen_take i hia ho hsa hse, by rw [show i + 1 - ra.length = 0 by omega]; rfl, hV4⟩, ?_⟩
                           simp only [Lib.intOf]
                           omega))
                · have hia2 : ra.length ≤ i := by omega
                  have hia' : ¬ (i : Int) < (ra.length : Int) := by omega
                  have hia3 : decide ((ra.length : Int) ≤ (i : Int)) = true := decide_eq_true (by omega)
                  have hw6 : IntKind.i64.wrap ((i : Int) - (ra.length : Int)) = ((i - ra.length : Nat) : Int) := by
                    simp [IntKind.wrap, IntKind.bits, IntKind.signed]; omega
                  have hjb : i - ra.length < rb.length := by omega
                  generalize hj : i - ra.length = j at hw6 hjb hsb
                  have hj0 := Goto.m0 hj
                  clear hj
                  have hjb' : (j : Int) < (rb.length : Int) := by omega
                  obtain ⟨ad, rfl, f0, f1, f2, f3, f4, f5⟩ := at_T35 (Kd.C_below hDd0 hV.2.2.2) (j : Int) (by omega) (by omega)
                  simp only [Int.toNat_natCast] at f0 f1 f2 f3 f4 f5
                  generalize ho : rd_T35 rb (j : Int) = o at f0 f1 f2 f3 f4 f5
                  have hS : ∀ w1 w2 : World, (Hd #[.int .i64 a, .int .i64 b, .slice A2 plans.length c2, .slice A3 doms.length c3] #[.int .i64 la, .int .u64 lb] #[.int .i64 ma, .int .u64 mb] w w1 ∧ w1.cell? (ad1.add d) = some (.slice R0 ra.length r0) ∧ w1.cell? (ad2.add d) = some (.slice (some ad) rb.length s0) ∧ w1.cell? (ad.add (j * 6)) = some (.int .i64 o.f0) ∧ w1.cell? ⟨(ad.add (j * 6)).block, (ad.add (j * 6)).off + 1, none⟩ = some (.int .i64 o.f1) ∧ w1.cell? ⟨(ad.add (j * 6)).block, (ad.add (j * 6)).off + 2, none⟩ = some (.int .i64 o.f2) ∧ w1.cell? ⟨(ad.add (j * 6)).block, (ad.add (j * 6)).off + 3, none⟩ = some (.int .i64 o.f3) ∧ w1.cell? ⟨(ad.add (j * 6)).block, (ad.add (j * 6)).off + 4, none⟩ = some (.int .i64 o.f4) ∧ w1.cell? ⟨(ad.add (j * 6)).block, (ad.add (j * 6)).off + 5, none⟩ = some (.int .i64 o.f5)) → Below w1.heap.size w1 w2 → (Hd #[.int .i64 a, .int .i64 b, .slice A2 plans.length c2, .slice A3 doms.length c3] #[.int .i64 la, .int .u64 lb] #[.int .i64 ma, .int .u64 mb] w w2 ∧ w2.cell? (ad1.add d) = some (.slice R0 ra.length r0) ∧ w2.cell? (ad2.add d) = some (.slice (some ad) rb.length s0) ∧ w2.cell? (ad.add (j * 6)) = some (.int .i64 o.f0) ∧ w2.cell? ⟨(ad.add (j * 6)).block, (ad.add (j * 6)).off + 1, none⟩ = some (.int .i64 o.f1) ∧ w2.cell? ⟨(ad.add (j * 6)).block, (ad.add (j * 6)).off + 2, none⟩ = some (.int .i64 o.f2) ∧ w2.cell? ⟨(ad.add (j * 6)).block, (ad.add (j * 6)).off + 3, none⟩ = some (.int .i64 o.f3) ∧ w2.cell? ⟨(ad.add (j * 6)).block, (ad.add (j * 6)).off + 4, none⟩ = some (.int .i64 o.f4) ∧ w2.cell? ⟨(ad.add (j * 6)).block, (ad.add (j * 6)).off + 5, none⟩ = some (.int .i64 o.f5)) := by
                    rintro w1 w2 ⟨k0, k1, k2, k3, k4, k5, k6, k7, k8⟩ hb
                    exact ⟨k0.step hb, Goto.kc hb k1, Goto.kc hb k2, Goto.kc hb k3, Goto.kc hb k4, Goto.kc hb k5, Goto.kc hb k6, Goto.kc hb k7, Goto.kc hb k8⟩
                  cases hse : seenB o
                  all_goals (
                    go_wp2_with fail
                    refine Rv.region (a' := ?_) (S := fun w' => Hd #[.int .i64 a, .int .i64 b, .slice A2 plans.length c2, .slice A3 doms.length c3] #[.int .i64 la, .int .u64 lb] #[.int .i64 ma, .int .u64 mb] w w' ∧ w'.cell? (ad1.add d) = some (.slice R0 ra.length r0) ∧ w'.cell? (ad2.add d) = some (.slice (some ad) rb.length s0) ∧ w'.cell? (ad.add (j * 6)) = some (.int .i64 o.f0) ∧ w'.cell? ⟨(ad.add (j * 6)).block, (ad.add (j * 6)).off + 1, none⟩ = some (.int .i64 o.f1) ∧ w'.cell? ⟨(ad.add (j * 6)).block, (ad.add (j * 6)).off + 2, none⟩ = some (.int .i64 o.f2) ∧ w'.cell? ⟨(ad.add (j * 6)).block, (ad.add (j * 6)).off + 3, none⟩ = some (.int .i64 o.f3) ∧ w'.cell? ⟨(ad.add (j * 6)).block, (ad.add (j * 6)).off + 4, none⟩ = some (.int .i64 o.f4) ∧ w'.cell? ⟨(ad.add (j * 6)).block, (ad.add (j * 6)).off + 5, none⟩ = some (.int .i64 o.f5)) (by kernel_rfl) (by kernel_rfl) ⟨hV.drew, hc1, hd1, f0, f1, f2, f3, f4, f5⟩ ?_ ?_
                    rotate_left
                    · dsimp only
                      repeat first
                        | refine Rv.sv ?_
                        | refine Rv.sc (f := 20) (fun w' hs => ((tontinelaw24_seen.calls o.f0 o.f1 o.f2 o.f3 o.f4 o.f5 _ w' ((seen_f o).trans (congrArg some hse))).mono (by
                            rintro e w'' ⟨rfl, hb⟩
                            exact ⟨rfl, hS _ _ hs hb⟩))) ?_
                        | refine Rv.sn ?_
                      exact .nil
                    · rintro w4 ⟨hV4, _, _, _, _, _, _, _, _⟩
                      go_wp2
                      first
                        | (go_ret; exact ⟨rfl, hV4.2.2.2⟩)
                        | (refine ⟨⟨i + 1, by omega, rfl, by rw [List.take_of_length_le (by omega)]; rw [List.take_of_length_le (by omega)] at hsa; exact hsa, by rw [show i + 1 - ra.length = j + 1 by have := hj0.out; omega]; exact seen_take j hjb ho hsb hse, hV4⟩, ?_⟩
                           simp only [Lib.intOf]
                           omega))
              · have hil' : ¬ (i : Int) < (ra.length : Int) + (rb.length : Int) := by omega
                rw [List.take_of_length_le (by omega)] at hsa hsb
                obtain ⟨ad3, _, _, _, _, rfl, ee0, ee1, _⟩ := at_T46 hr3 (d : Int) (by omega) (by have := H3.out; omega)
                simp only [Int.toNat_natCast] at ee0 ee1
                have hle := leq_low doms la lb (d : Int) d rfl
                have hlj := leq_low doms (mx la ma) (bits .or .u64 lb mb) (d : Int) d rfl
                have hdd : (d : Int) < (doms.length : Int) := by have := H3.out; omega
                generalize rd_T46 doms (d : Int) = dm at ee0 ee1 hle hlj
                have hs1 := sameN_succ tr ts doms la lb d
                have hs2 := sameN_succ tr ts doms (mx la ma) (bits .or .u64 lb mb) d
                have hrow2 : ∀ j < d + 1, (rowN tr j).length ≤ 60 ∧ (rowN ts j).length ≤ 60 ∧ (rowN tr j).all seenB = true ∧ (rowN ts j).all seenB = true := by
                  intro j hj
                  by_cases e : j = d
                  · subst e
                    unfold rowN
                    rw [hra, hrb]
                    exact ⟨ca, cb, hsa, hsb⟩
                  · exact hrows j (by omega)
                unfold rowN at hs1 hs2
                rw [hra, hrb] at hs1 hs2
                have hS : ∀ w1 w2 : World, (Hd #[.int .i64 a, .int .i64 b, .slice A2 plans.length c2, .slice (some ad3) doms.length c3] #[.int .i64 la, .int .u64 lb] #[.int .i64 ma, .int .u64 mb] w w1 ∧ w1.cell? (ad1.add d) = some (.slice R0 ra.length r0) ∧ w1.cell? (ad2.add d) = some (.slice S0 rb.length s0) ∧ w1.cell? ⟨w.heap.size, 0, none⟩ = some (.int .i64 a) ∧ w1.cell? ⟨w.heap.size, 1, none⟩ = some (.int .i64 b) ∧ w1.cell? ⟨w.heap.size, 2, none⟩ = some (.slice A2 plans.length c2) ∧ w1.cell? ⟨w.heap.size, 3, none⟩ = some (.slice (some ad3) doms.length c3) ∧ w1.cell? ⟨w.heap.size + 1, 0, none⟩ = some (.int .i64 la) ∧ w1.cell? ⟨w.heap.size + 1, 1, none⟩ = some (.int .u64 lb) ∧ w1.cell? ⟨w.heap.size + 1 + 1, 0, none⟩ = some (.int .i64 ma) ∧ w1.cell? ⟨w.heap.size + 1 + 1, 1, none⟩ = some (.int .u64 mb) ∧ w1.cell? (ad3.add (d * 10)) = some (.int .i64 dm.f0.f0) ∧ w1.cell? ⟨(ad3.add (d * 10)).block, (ad3.add (d * 10)).off + 1, none⟩ = some (.int .u64 dm.f0.f1)) → Below w1.heap.size w1 w2 → (Hd #[.int .i64 a, .int .i64 b, .slice A2 plans.length c2, .slice (some ad3) doms.length c3] #[.int .i64 la, .int .u64 lb] #[.int .i64 ma, .int .u64 mb] w w2 ∧ w2.cell? (ad1.add d) = some (.slice R0 ra.length r0) ∧ w2.cell? (ad2.add d) = some (.slice S0 rb.length s0) ∧ w2.cell? ⟨w.heap.size, 0, none⟩ = some (.int .i64 a) ∧ w2.cell? ⟨w.heap.size, 1, none⟩ = some (.int .i64 b) ∧ w2.cell? ⟨w.heap.size, 2, none⟩ = some (.slice A2 plans.length c2) ∧ w2.cell? ⟨w.heap.size, 3, none⟩ = some (.slice (some ad3) doms.length c3) ∧ w2.cell? ⟨w.heap.size + 1, 0, none⟩ = some (.int .i64 la) ∧ w2.cell? ⟨w.heap.size + 1, 1, none⟩ = some (.int .u64 lb) ∧ w2.cell? ⟨w.heap.size + 1 + 1, 0, none⟩ = some (.int .i64 ma) ∧ w2.cell? ⟨w.heap.size + 1 + 1, 1, none⟩ = some (.int .u64 mb) ∧ w2.cell? (ad3.add (d * 10)) = some (.int .i64 dm.f0.f0) ∧ w2.cell? ⟨(ad3.add (d * 10)).block, (ad3.add (d * 10)).off + 1, none⟩ = some (.int .u64 dm.f0.f1)) := by
                  rintro w1 w2 ⟨k0, k1, k2, k3, k4, k5, k6, k7, k8, k9, k10, k11, k12⟩ hb
                  exact ⟨k0.step hb, Goto.kc hb k1, Goto.kc hb k2, Goto.kc hb k3, Goto.kc hb k4, Goto.kc hb k5, Goto.kc hb k6, Goto.kc hb k7, Goto.kc hb k8, Goto.kc hb k9, Goto.kc hb k10, Goto.kc hb k11, Goto.kc hb k12⟩
                have hK : Hd #[.int .i64 a, .int .i64 b, .slice A2 plans.length c2, .slice (some ad3) doms.length c3] #[.int .i64 la, .int .u64 lb] #[.int .i64 ma, .int .u64 mb] w w3 ∧ w3.cell? (ad1.add d) = some (.slice R0 ra.length r0) ∧ w3.cell? (ad2.add d) = some (.slice S0 rb.length s0) ∧ w3.cell? ⟨w.heap.size, 0, none⟩ = some (.int .i64 a) ∧ w3.cell? ⟨w.heap.size, 1, none⟩ = some (.int .i64 b) ∧ w3.cell? ⟨w.heap.size, 2, none⟩ = some (.slice A2 plans.length c2) ∧ w3.cell? ⟨w.heap.size, 3, none⟩ = some (.slice (some ad3) doms.length c3) ∧ w3.cell? ⟨w.heap.size + 1, 0, none⟩ = some (.int .i64 la) ∧ w3.cell? ⟨w.heap.size + 1, 1, none⟩ = some (.int .u64 lb) ∧ w3.cell? ⟨w.heap.size + 1 + 1, 0, none⟩ = some (.int .i64 ma) ∧ w3.cell? ⟨w.heap.size + 1 + 1, 1, none⟩ = some (.int .u64 mb) ∧ w3.cell? (ad3.add (d * 10)) = some (.int .i64 dm.f0.f0) ∧ w3.cell? ⟨(ad3.add (d * 10)).block, (ad3.add (d * 10)).off + 1, none⟩ = some (.int .u64 dm.f0.f1) := ⟨hV, hc1, hd1, hV.cellC.1, hV.cellC.2.1, hV.cellC.2.2.1, hV.cellC.2.2.2, hV.cellL.1, hV.cellL.2, hV.cellM.1, hV.cellM.2, Goto.kc hV.2.2.2 ee0, Goto.kc hV.2.2.2 ee1⟩
                clear u0 u1 u2 u3 ul0 ul1 um0 um1 hc1 hd1 hc0 hd0
                cases hal : sameO ra rb
                · go_wp2_with fail
                  refine Rv.region (a' := ?_) (S := fun w' => Hd #[.int .i64 a, .int .i64 b, .slice A2 plans.length c2, .slice (some ad3) doms.length c3] #[.int .i64 la, .int .u64 lb] #[.int .i64 ma, .int .u64 mb] w w' ∧ w'.cell? (ad1.add d) = some (.slice R0 ra.length r0) ∧ w'.cell? (ad2.add d) = some (.slice S0 rb.length s0) ∧ w'.cell? ⟨w.heap.size, 0, none⟩ = some (.int .i64 a) ∧ w'.cell? ⟨w.heap.size, 1, none⟩ = some (.int .i64 b) ∧ w'.cell? ⟨w.heap.size, 2, none⟩ = some (.slice A2 plans.length c2) ∧ w'.cell? ⟨w.heap.size, 3, none⟩ = some (.slice (some ad3) doms.length c3) ∧ w'.cell? ⟨w.heap.size + 1, 0, none⟩ = some (.int .i64 la) ∧ w'.cell? ⟨w.heap.size + 1, 1, none⟩ = some (.int .u64 lb) ∧ w'.cell? ⟨w.heap.size + 1 + 1, 0, none⟩ = some (.int .i64 ma) ∧ w'.cell? ⟨w.heap.size + 1 + 1, 1, none⟩ = some (.int .u64 mb) ∧ w'.cell? (ad3.add (d * 10)) = some (.int .i64 dm.f0.f0) ∧ w'.cell? ⟨(ad3.add (d * 10)).block, (ad3.add (d * 10)).off + 1, none⟩ = some (.int .u64 dm.f0.f1)) (by kernel_rfl) (by kernel_rfl) (hS _ _ hK (below_drew (Below.refl _ _))) ?_ ?_
                  rotate_left
                  · dsimp only
                    repeat first
                      | refine Rv.sn ?_
                      | refine Rv.sv ?_
                      | refine Rv.sc (f := 12) (fun w' hs => ((tontineref21_SameObs.calls 100 R0 r0 ra S0 s0 rb _ _ (Kd.C_below hCd0 hs.1.2.2.2) hcl (Kd.C_below hDd0 hs.1.2.2.2) hdl0 ((sameobs_f ra rb ca 100 (by omega)).trans (congrArg some hal))).mono (by
                          rintro e w'' ⟨rfl, hb⟩
                          exact ⟨rfl, hS _ _ hs hb.below⟩))) ?_
                    exact .nil
                  · rintro w4 hK
                    have hV4 := hK.1
                    cases hsN : sameN tr ts doms la lb d
                    all_goals cases hlo : lowB doms la lb d
                    all_goals (
                      clear hV
                      go_wp2_with fail
                      refine Rv.region (a' := ?_) (S := fun w' => Hd #[.int .i64 a, .int .i64 b, .slice A2 plans.length c2, .slice (some ad3) doms.length c3] #[.int .i64 la, .int .u64 lb] #[.int .i64 ma, .int .u64 mb] w w' ∧ w'.cell? (ad1.add d) = some (.slice R0 ra.length r0) ∧ w'.cell? (ad2.add d) = some (.slice S0 rb.length s0) ∧ w'.cell? ⟨w.heap.size, 0, none⟩ = some (.int .i64 a) ∧ w'.cell? ⟨w.heap.size, 1, none⟩ = some (.int .i64 b) ∧ w'.cell? ⟨w.heap.size, 2, none⟩ = some (.slice A2 plans.length c2) ∧ w'.cell? ⟨w.heap.size, 3, none⟩ = some (.slice (some ad3) doms.length c3) ∧ w'.cell? ⟨w.heap.size + 1, 0, none⟩ = some (.int .i64 la) ∧ w'.cell? ⟨w.heap.size + 1, 1, none⟩ = some (.int .u64 lb) ∧ w'.cell? ⟨w.heap.size + 1 + 1, 0, none⟩ = some (.int .i64 ma) ∧ w'.cell? ⟨w.heap.size + 1 + 1, 1, none⟩ = some (.int .u64 mb) ∧ w'.cell? (ad3.add (d * 10)) = some (.int .i64 dm.f0.f0) ∧ w'.cell? ⟨(ad3.add (d * 10)).block, (ad3.add (d * 10)).off + 1, none⟩ = some (.int .u64 dm.f0.f1)) (by kernel_rfl) (by kernel_rfl) (hS _ _ hK (below_drew (Below.refl _ _))) ?_ ?_
                      rotate_left
                      · dsimp only
                        repeat first
                          | refine Rv.sn ?_
                          | refine Rv.sv ?_
                          | refine Rv.sc (f := 21) (fun w' hs => ((tontineref1_Leq.calls dm.f0.f0 dm.f0.f1 la lb _ w' (hle.trans (congrArg some hlo))).mono (by
                              rintro e w'' ⟨rfl, hb⟩
                              exact ⟨rfl, hS _ _ hs hb⟩))) ?_
                        exact .nil
                      · rintro w4 hK
                        have hV4 := hK.1
                        cases hmN : sameN tr ts doms (mx la ma) (bits .or .u64 lb mb) d
                        all_goals cases hlm : lowB doms (mx la ma) (bits .or .u64 lb mb) d
                        all_goals (
                          go_wp2_with fail
                          refine Rv.region (a' := ?_) (S := fun w' => Hd #[.int .i64 a, .int .i64 b, .slice A2 plans.length c2, .slice (some ad3) doms.length c3] #[.int .i64 la, .int .u64 lb] #[.int .i64 ma, .int .u64 mb] w w' ∧ w'.cell? (ad1.add d) = some (.slice R0 ra.length r0) ∧ w'.cell? (ad2.add d) = some (.slice S0 rb.length s0) ∧ w'.cell? ⟨w.heap.size, 0, none⟩ = some (.int .i64 a) ∧ w'.cell? ⟨w.heap.size, 1, none⟩ = some (.int .i64 b) ∧ w'.cell? ⟨w.heap.size, 2, none⟩ = some (.slice A2 plans.length c2) ∧ w'.cell? ⟨w.heap.size, 3, none⟩ = some (.slice (some ad3) doms.length c3) ∧ w'.cell? ⟨w.heap.size + 1, 0, none⟩ = some (.int .i64 la) ∧ w'.cell? ⟨w.heap.size + 1, 1, none⟩ = some (.int .u64 lb) ∧ w'.cell? ⟨w.heap.size + 1 + 1, 0, none⟩ = some (.int .i64 ma) ∧ w'.cell? ⟨w.heap.size + 1 + 1, 1, none⟩ = some (.int .u64 mb) ∧ w'.cell? (ad3.add (d * 10)) = some (.int .i64 dm.f0.f0) ∧ w'.cell? ⟨(ad3.add (d * 10)).block, (ad3.add (d * 10)).off + 1, none⟩ = some (.int .u64 dm.f0.f1)) (by kernel_rfl) (by kernel_rfl) (hS _ _ hK (below_drew (Below.refl _ _))) ?_ ?_
                          rotate_left
                          · dsimp only
                            repeat first
                              | refine Rv.sn ?_
                              | refine Rv.sv ?_
                              | refine Rv.sc (f := 22) (fun w' hs => ((tontineref1_Join.calls la lb ma mb (mx la ma) (bits .or .u64 lb mb) w' rfl).mono (by
                                  rintro e w'' ⟨rfl, hb⟩
                                  exact ⟨rfl, hS _ _ hs hb⟩))) ?_
                              | refine Rv.sc (f := 21) (fun w' hs => ((tontineref1_Leq.calls dm.f0.f0 dm.f0.f1 (mx la ma) (bits .or .u64 lb mb) _ w' (hlj.trans (congrArg some hlm))).mono (by
                                  rintro e w'' ⟨rfl, hb⟩
                                  exact ⟨rfl, hS _ _ hs hb⟩))) ?_
                            exact .nil
                          · rintro w4 hK
                            have hV4 := hK.1
                            go_wp2
                            refine ⟨⟨d + 1, by omega, ?_, ?_, rfl, hrow2, hV4⟩, ?_⟩
                            · first
                                | (rw [hs1, hsN]; rfl)
                                | (rw [hs1, hsN, hal]; rfl)
                                | (rw [hs1, hsN, hal, hlo]; rfl)
                            · first
                                | (rw [hs2, hmN]; rfl)
                                | (rw [hs2, hmN, hal]; rfl)
                                | (rw [hs2, hmN, hal, hlm]; rfl)
                            · simp only [Lib.intOf]
                              omega))
                · go_wp2_with fail
                  refine Rv.region (a' := ?_) (S := fun w' => Hd #[.int .i64 a, .int .i64 b, .slice A2 plans.length c2, .slice (some ad3) doms.length c3] #[.int .i64 la, .int .u64 lb] #[.int .i64 ma, .int .u64 mb] w w' ∧ w'.cell? (ad1.add d) = some (.slice R0 ra.length r0) ∧ w'.cell? (ad2.add d) = some (.slice S0 rb.length s0) ∧ w'.cell? ⟨w.heap.size, 0, none⟩ = some (.int .i64 a) ∧ w'.cell? ⟨w.heap.size, 1, none⟩ = some (.int .i64 b) ∧ w'.cell? ⟨w.heap.size, 2, none⟩ = some (.slice A2 plans.length c2) ∧ w'.cell? ⟨w.heap.size, 3, none⟩ = some (.slice (some ad3) doms.length c3) ∧ w'.cell? ⟨w.heap.size + 1, 0, none⟩ = some (.int .i64 la) ∧ w'.cell? ⟨w.heap.size + 1, 1, none⟩ = some (.int .u64 lb) ∧ w'.cell? ⟨w.heap.size + 1 + 1, 0, none⟩ = some (.int .i64 ma) ∧ w'.cell? ⟨w.heap.size + 1 + 1, 1, none⟩ = some (.int .u64 mb) ∧ w'.cell? (ad3.add (d * 10)) = some (.int .i64 dm.f0.f0) ∧ w'.cell? ⟨(ad3.add (d * 10)).block, (ad3.add (d * 10)).off + 1, none⟩ = some (.int .u64 dm.f0.f1)) (by kernel_rfl) (by kernel_rfl) (hS _ _ hK (below_drew (Below.refl _ _))) ?_ ?_
                  rotate_left
                  · dsimp only
                    repeat first
                      | refine Rv.sn ?_
                      | refine Rv.sv ?_
                      | refine Rv.sc (f := 12) (fun w' hs => ((tontineref21_SameObs.calls 100 R0 r0 ra S0 s0 rb _ _ (Kd.C_below hCd0 hs.1.2.2.2) hcl (Kd.C_below hDd0 hs.1.2.2.2) hdl0 ((sameobs_f ra rb ca 100 (by omega)).trans (congrArg some hal))).mono (by
                          rintro e w'' ⟨rfl, hb⟩
                          exact ⟨rfl, hS _ _ hs hb.below⟩))) ?_
                    exact .nil
                  · rintro w4 hK
                    have hV4 := hK.1
                    cases hsN : sameN tr ts doms la lb d
                    all_goals (
                      clear hV
                      go_wp2_with fail
                      refine Rv.region (a' := ?_) (S := fun w' => Hd #[.int .i64 a, .int .i64 b, .slice A2 plans.length c2, .slice (some ad3) doms.length c3] #[.int .i64 la, .int .u64 lb] #[.int .i64 ma, .int .u64 mb] w w' ∧ w'.cell? (ad1.add d) = some (.slice R0 ra.length r0) ∧ w'.cell? (ad2.add d) = some (.slice S0 rb.length s0) ∧ w'.cell? ⟨w.heap.size, 0, none⟩ = some (.int .i64 a) ∧ w'.cell? ⟨w.heap.size, 1, none⟩ = some (.int .i64 b) ∧ w'.cell? ⟨w.heap.size, 2, none⟩ = some (.slice A2 plans.length c2) ∧ w'.cell? ⟨w.heap.size, 3, none⟩ = some (.slice (some ad3) doms.length c3) ∧ w'.cell? ⟨w.heap.size + 1, 0, none⟩ = some (.int .i64 la) ∧ w'.cell? ⟨w.heap.size + 1, 1, none⟩ = some (.int .u64 lb) ∧ w'.cell? ⟨w.heap.size + 1 + 1, 0, none⟩ = some (.int .i64 ma) ∧ w'.cell? ⟨w.heap.size + 1 + 1, 1, none⟩ = some (.int .u64 mb) ∧ w'.cell? (ad3.add (d * 10)) = some (.int .i64 dm.f0.f0) ∧ w'.cell? ⟨(ad3.add (d * 10)).block, (ad3.add (d * 10)).off + 1, none⟩ = some (.int .u64 dm.f0.f1)) (by kernel_rfl) (by kernel_rfl) (hS _ _ hK (below_drew (Below.refl _ _))) ?_ ?_
                      rotate_left
                      · dsimp only
                        repeat first
                          | refine Rv.sn ?_
                          | refine Rv.sv ?_
                          | refine Rv.sc (f := 21) (fun w' hs => ((tontineref1_Leq.calls dm.f0.f0 dm.f0.f1 la lb _ w' (hle.trans (congrArg some hlo))).mono (by
                              rintro e w'' ⟨rfl, hb⟩
                              exact ⟨rfl, hS _ _ hs hb⟩))) ?_
                        exact .nil
                      · rintro w4 hK
                        have hV4 := hK.1
                        cases hmN : sameN tr ts doms (mx la ma) (bits .or .u64 lb mb) d
                        all_goals (
                          go_wp2_with fail
                          refine Rv.region (a' := ?_) (S := fun w' => Hd #[.int .i64 a, .int .i64 b, .slice A2 plans.length c2, .slice (some ad3) doms.length c3] #[.int .i64 la, .int .u64 lb] #[.int .i64 ma, .int .u64 mb] w w' ∧ w'.cell? (ad1.add d) = some (.slice R0 ra.length r0) ∧ w'.cell? (ad2.add d) = some (.slice S0 rb.length s0) ∧ w'.cell? ⟨w.heap.size, 0, none⟩ = some (.int .i64 a) ∧ w'.cell? ⟨w.heap.size, 1, none⟩ = some (.int .i64 b) ∧ w'.cell? ⟨w.heap.size, 2, none⟩ = some (.slice A2 plans.length c2) ∧ w'.cell? ⟨w.heap.size, 3, none⟩ = some (.slice (some ad3) doms.length c3) ∧ w'.cell? ⟨w.heap.size + 1, 0, none⟩ = some (.int .i64 la) ∧ w'.cell? ⟨w.heap.size + 1, 1, none⟩ = some (.int .u64 lb) ∧ w'.cell? ⟨w.heap.size + 1 + 1, 0, none⟩ = some (.int .i64 ma) ∧ w'.cell? ⟨w.heap.size + 1 + 1, 1, none⟩ = some (.int .u64 mb) ∧ w'.cell? (ad3.add (d * 10)) = some (.int .i64 dm.f0.f0) ∧ w'.cell? ⟨(ad3.add (d * 10)).block, (ad3.add (d * 10)).off + 1, none⟩ = some (.int .u64 dm.f0.f1)) (by kernel_rfl) (by kernel_rfl) (hS _ _ hK (below_drew (Below.refl _ _))) ?_ ?_
                          rotate_left
                          · dsimp only
                            repeat first
                              | refine Rv.sn ?_
                              | refine Rv.sv ?_
                              | refine Rv.sc (f := 22) (fun w' hs => ((tontineref1_Join.calls la lb ma mb (mx la ma) (bits .or .u64 lb mb) w' rfl).mono (by
                                  rintro e w'' ⟨rfl, hb⟩
                                  exact ⟨rfl, hS _ _ hs hb⟩))) ?_
                              | refine Rv.sc (f := 21) (fun w' hs => ((tontineref1_Leq.calls dm.f0.f0 dm.f0.f1 (mx la ma) (bits .or .u64 lb mb) _ w' (hlj.trans (congrArg some hlm))).mono (by
                                  rintro e w'' ⟨rfl, hb⟩
                                  exact ⟨rfl, hS _ _ hs hb⟩))) ?_
                            exact .nil
                          · rintro w4 hK
                            have hV4 := hK.1
                            go_wp2
                            refine ⟨⟨d + 1, by omega, ?_, ?_, rfl, hrow2, hV4⟩, ?_⟩
                            · first
                                | (rw [hs1, hsN]; rfl)
                                | (rw [hs1, hsN, hal]; rfl)
                                | (rw [hs1, hsN, hal, hlo]; rfl)
                            · first
                                | (rw [hs2, hmN]; rfl)
                                | (rw [hs2, hmN, hal]; rfl)
                                | (rw [hs2, hmN, hal, hlm]; rfl)
                            · simp only [Lib.intOf]
                              omega))
        · have ca' : ¬ (60 : Int) < (ra.length : Int) := by omega
          have cb' : (60 : Int) < (rb.length : Int) := by omega
          go_wp2
          go_ret
          exact ⟨rfl, hW.2.2.2⟩
      · have ca' : (60 : Int) < (ra.length : Int) := by omega
        go_wp2
        go_ret
        exact ⟨rfl, hW.2.2.2⟩
    · have hdl : ¬ (d : Int) < (tr.length : Int) := by omega
      have hdn : d = tr.length := by omega
      have hF : ∀ j < tr.length, Fine tr ts j := fun j hj => by
        have hj2 : j < ts.length := by have := H3.out; have := H4.out; omega
        have q := hrows j (by omega)
        have e1 : rd_L4 tr (j : Int) = tr[j] := by simp [rd_L4, hj]
        have e2 : rd_L4 ts (j : Int) = ts[j] := by simp [rd_L4, hj2]
        exact ⟨by rw [e1]; exact okr _ (List.getElem_mem hj), by rw [e2]; exact oks _ (List.getElem_mem hj2), q.2.2.1, q.2.2.2⟩
      have ok1 : okT tr = true := by
        unfold okT
        rw [List.all_eq_true]
        intro l hl
        obtain ⟨j, hj, rfl⟩ := List.getElem_of_mem hl
        have e1 : rd_L4 tr (j : Int) = tr[j] := by simp [rd_L4, hj]
        have q := (hrows j (by omega)).1
        unfold rowN at q
        rw [e1] at q
        rw [Bool.and_eq_true, decide_eq_true_eq]
        exact ⟨q, okr _ (List.getElem_mem hj)⟩
      have ok2 : okT ts = true := by
        unfold okT
        rw [List.all_eq_true]
        intro l hl
        obtain ⟨j, hj, rfl⟩ := List.getElem_of_mem hl
        have e1 : rd_L4 ts (j : Int) = ts[j] := by simp [rd_L4, hj]
        have q := (hrows j (by have := H3.out; have := H4.out; omega)).2.1
        unfold rowN at q
        rw [e1] at q
        rw [Bool.and_eq_true, decide_eq_true_eq]
        exact ⟨q, oks _ (List.getElem_mem hj)⟩
      have m1 : min doms.length tr.length = d := by have := H3.out; omega
      have m2 : min doms.length ts.length = d := by have := H3.out; have := H4.out; omega
      have hj : ∀ (t : List (List S35)) (x y : Int), okT t = true → min doms.length t.length = d → ext_18.f a b plans doms t x y = some ⟨(jointL t (belowL doms x y d)).toArray⟩ := fun t x y h1 h2 => by
        unfold ext_18.f
        rw [h2, if_pos ⟨by have := H3.out; omega, h1⟩]
      have j1 := hj tr la lb ok1 m1
      have j2 := hj ts la lb ok2 m2
      have j3 := hj tr (mx la ma) (bits .or .u64 lb mb) ok1 m1
      have j4 := hj ts (mx la ma) (bits .or .u64 lb mb) ok2 m2
      clear hj m1 m2 ok1 ok2
      have t1 := joint_tells tr ts doms la lb d (fun j hj => hF j (by omega))
      have t2 := joint_tells tr ts doms (mx la ma) (bits .or .u64 lb mb) d (fun j hj => hF j (by omega))
      have t3 := more_same tr ts doms la lb ma mb d
      generalize jointL tr (belowL doms la lb d) = X1 at j1 t1
      generalize jointL ts (belowL doms la lb d) = X2 at j2 t1
      generalize jointL tr (belowL doms (mx la ma) (bits .or .u64 lb mb) d) = X3 at j3 t2
      generalize jointL ts (belowL doms (mx la ma) (bits .or .u64 lb mb) d) = X4 at j4 t2
      generalize sameN tr ts doms la lb d = sx at t1 t3 ⊢
      generalize sameN tr ts doms (mx la ma) (bits .or .u64 lb mb) d = sy at t2 t3 ⊢
      have hS : ∀ w1 w2 : World, (Hd #[.int .i64 a, .int .i64 b, .slice A2 plans.length c2, .slice A3 doms.length c3] #[.int .i64 la, .int .u64 lb] #[.int .i64 ma, .int .u64 mb] w w1 ∧ w1.cell? ⟨w.heap.size, 0, none⟩ = some (.int .i64 a) ∧ w1.cell? ⟨w.heap.size, 1, none⟩ = some (.int .i64 b) ∧ w1.cell? ⟨w.heap.size, 2, none⟩ = some (.slice A2 plans.length c2) ∧ w1.cell? ⟨w.heap.size, 3, none⟩ = some (.slice A3 doms.length c3) ∧ w1.cell? ⟨w.heap.size + 1, 0, none⟩ = some (.int .i64 la) ∧ w1.cell? ⟨w.heap.size + 1, 1, none⟩ = some (.int .u64 lb) ∧ w1.cell? ⟨w.heap.size + 1 + 1, 0, none⟩ = some (.int .i64 ma) ∧ w1.cell? ⟨w.heap.size + 1 + 1, 1, none⟩ = some (.int .u64 mb)) → Below w1.heap.size w1 w2 → (Hd #[.int .i64 a, .int .i64 b, .slice A2 plans.length c2, .slice A3 doms.length c3] #[.int .i64 la, .int .u64 lb] #[.int .i64 ma, .int .u64 mb] w w2 ∧ w2.cell? ⟨w.heap.size, 0, none⟩ = some (.int .i64 a) ∧ w2.cell? ⟨w.heap.size, 1, none⟩ = some (.int .i64 b) ∧ w2.cell? ⟨w.heap.size, 2, none⟩ = some (.slice A2 plans.length c2) ∧ w2.cell? ⟨w.heap.size, 3, none⟩ = some (.slice A3 doms.length c3) ∧ w2.cell? ⟨w.heap.size + 1, 0, none⟩ = some (.int .i64 la) ∧ w2.cell? ⟨w.heap.size + 1, 1, none⟩ = some (.int .u64 lb) ∧ w2.cell? ⟨w.heap.size + 1 + 1, 0, none⟩ = some (.int .i64 ma) ∧ w2.cell? ⟨w.heap.size + 1 + 1, 1, none⟩ = some (.int .u64 mb)) := by
        rintro w1 w2 ⟨k0, k1, k2, k3, k4, k5, k6, k7, k8⟩ hb
        exact ⟨k0.step hb, Goto.kc hb k1, Goto.kc hb k2, Goto.kc hb k3, Goto.kc hb k4, Goto.kc hb k5, Goto.kc hb k6, Goto.kc hb k7, Goto.kc hb k8⟩
      have hK : Hd #[.int .i64 a, .int .i64 b, .slice A2 plans.length c2, .slice A3 doms.length c3] #[.int .i64 la, .int .u64 lb] #[.int .i64 ma, .int .u64 mb] w wr ∧ wr.cell? ⟨w.heap.size, 0, none⟩ = some (.int .i64 a) ∧ wr.cell? ⟨w.heap.size, 1, none⟩ = some (.int .i64 b) ∧ wr.cell? ⟨w.heap.size, 2, none⟩ = some (.slice A2 plans.length c2) ∧ wr.cell? ⟨w.heap.size, 3, none⟩ = some (.slice A3 doms.length c3) ∧ wr.cell? ⟨w.heap.size + 1, 0, none⟩ = some (.int .i64 la) ∧ wr.cell? ⟨w.heap.size + 1, 1, none⟩ = some (.int .u64 lb) ∧ wr.cell? ⟨w.heap.size + 1 + 1, 0, none⟩ = some (.int .i64 ma) ∧ wr.cell? ⟨w.heap.size + 1 + 1, 1, none⟩ = some (.int .u64 mb) := ⟨hW, hW.cellC.1, hW.cellC.2.1, hW.cellC.2.2.1, hW.cellC.2.2.2, hW.cellL.1, hW.cellL.2, hW.cellM.1, hW.cellM.2⟩
      have T1 := Goto.m0 t1
      have T2 := Goto.m0 t2
      have T3 := Goto.m0 t3
      clear t1 t2 t3 u0 u1 u2 u3 ul0 ul1 um0 um1 hrows hdn
      go_wp2_with fail
      refine Rv.region (a' := ?_) (S := fun w' => Hd #[.int .i64 a, .int .i64 b, .slice A2 plans.length c2, .slice A3 doms.length c3] #[.int .i64 la, .int .u64 lb] #[.int .i64 ma, .int .u64 mb] w w' ∧ w'.cell? ⟨w.heap.size, 0, none⟩ = some (.int .i64 a) ∧ w'.cell? ⟨w.heap.size, 1, none⟩ = some (.int .i64 b) ∧ w'.cell? ⟨w.heap.size, 2, none⟩ = some (.slice A2 plans.length c2) ∧ w'.cell? ⟨w.heap.size, 3, none⟩ = some (.slice A3 doms.length c3) ∧ w'.cell? ⟨w.heap.size + 1, 0, none⟩ = some (.int .i64 la) ∧ w'.cell? ⟨w.heap.size + 1, 1, none⟩ = some (.int .u64 lb) ∧ w'.cell? ⟨w.heap.size + 1 + 1, 0, none⟩ = some (.int .i64 ma) ∧ w'.cell? ⟨w.heap.size + 1 + 1, 1, none⟩ = some (.int .u64 mb)) (by kernel_rfl) (by kernel_rfl) (hS _ _ hK (below_drew (Below.refl _ _))) ?_ ?_
      rotate_left
      · dsimp only
        repeat first
          | refine Rv.sn ?_
          | refine Rv.sv ?_
          | refine Rv.sc (f := 18) (fun w' hs => ((ext_18.calls a b A2 c2 plans A3 c3 doms A1 c1 tr la lb _ w' (Goto.kt hs.1.2.2.2 hld) (Kd.C_below hr2 hs.1.2.2.2) hc2 (Kd.C_below hr3 hs.1.2.2.2) hc3 (Kd.C_below hr1 hs.1.2.2.2) hc1 j1).mono (by
              rintro e w'' ⟨rfl, hb⟩
              exact ⟨rfl, hS _ _ hs hb⟩))) ?_
          | refine Rv.sc (f := 18) (fun w' hs => ((ext_18.calls a b A2 c2 plans A3 c3 doms B1 e1 ts la lb _ w' (Goto.kt hs.1.2.2.2 hld) (Kd.C_below hr2 hs.1.2.2.2) hc2 (Kd.C_below hr3 hs.1.2.2.2) hc3 (Kd.C_below hs1 hs.1.2.2.2) he1 j2).mono (by
              rintro e w'' ⟨rfl, hb⟩
              exact ⟨rfl, hS _ _ hs hb⟩))) ?_
          | refine Rv.sc (f := 22) (fun w' hs => ((tontineref1_Join.calls la lb ma mb (mx la ma) (bits .or .u64 lb mb) w' rfl).mono (by
              rintro e w'' ⟨rfl, hb⟩
              exact ⟨rfl, hS _ _ hs hb⟩))) ?_
          | refine Rv.sc (f := 18) (fun w' hs => ((ext_18.calls a b A2 c2 plans A3 c3 doms A1 c1 tr (mx la ma) (bits .or .u64 lb mb) _ w' (Goto.kt hs.1.2.2.2 hld) (Kd.C_below hr2 hs.1.2.2.2) hc2 (Kd.C_below hr3 hs.1.2.2.2) hc3 (Kd.C_below hr1 hs.1.2.2.2) hc1 j3).mono (by
              rintro e w'' ⟨rfl, hb⟩
              exact ⟨rfl, hS _ _ hs hb⟩))) ?_
          | refine Rv.sc (f := 18) (fun w' hs => ((ext_18.calls a b A2 c2 plans A3 c3 doms B1 e1 ts (mx la ma) (bits .or .u64 lb mb) _ w' (Goto.kt hs.1.2.2.2 hld) (Kd.C_below hr2 hs.1.2.2.2) hc2 (Kd.C_below hr3 hs.1.2.2.2) hc3 (Kd.C_below hs1 hs.1.2.2.2) he1 j4).mono (by
              rintro e w'' ⟨rfl, hb⟩
              exact ⟨rfl, hS _ _ hs hb⟩))) ?_
        exact .nil
      · rintro w4 hK4
        have hV4 := hK4.1
        have hx : (X1 == X2) = sx := by rw [Bool.eq_iff_iff, beq_iff_eq]; exact T1.out
        have hy : (X3 == X4) = sy := by rw [Bool.eq_iff_iff, beq_iff_eq]; exact T2.out
        have T4 := T3.out
        rw [hx, hy]
        clear hx hy T1 T2 T3 j1 j2 j3 j4 hK hK4
        cases sx <;> cases sy
        all_goals first
          | exact absurd (T4 rfl) (by decide)
          | (clear T4
             go_wp2
             go_ret
             exact ⟨rfl, hV4.2.2.2⟩)
end Go.Proofs.YtlmllmbbdlkknaaDoor.P
