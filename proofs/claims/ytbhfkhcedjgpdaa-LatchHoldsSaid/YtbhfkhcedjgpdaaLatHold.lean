/- Between two turns nothing changes, whatever is asked; what was asked last counts: the law, walked by hand over the latch's contracts. -/
import Derived.Test.YtbhfkhcedjgpdaaLatS
import Derived.WalkKit
import Derived.Sort.WalkA
import Derived.Deep.RegionHeldLaw
namespace Go.Proofs.Ytbhfkhcedjgpdaa.P
open Go Go.RowKit Go.Proofs.Ytbhfkhcedjgpdaa Go.Proofs.Ytbhfkhcedjgpdaa.LatchR Go.Proofs.YtbhfkhcedjgpdaaW.PrintWords Go.Proofs.YtbhfkhcedjgpdaaW.PrintLast Go.Proofs.YtbhfkhcedjgpdaaW.PrintMore
def cellsI (l : List Int) : Array Value := (l.map fun x => Value.int .i64 x).toArray
theorem askP_some {pl : List (List Int)} {ap i ap' : Int} (hq : askP pl ap i = (none, ap')) : ap' = i := by
  unfold askP at hq
  split at hq
  · cases hq
  · split at hq
    · cases hq
    · exact (Prod.mk.inj hq).2.symm
theorem askL_some {dm : List S44} {al al' : List Int} {d v : Int} (hq : askL dm al d v = (none, al')) : 0 ≤ d ∧ d < (dm.length : Int) ∧ al' = al.set d.toNat v := by
  unfold askL at hq
  split at hq
  · cases hq
  · split at hq
    · cases hq
    · split at hq
      · cases hq
      · split at hq
        · cases hq
        · exact ⟨by omega, by omega, (Prod.mk.inj hq).2.symm⟩
theorem arr_C {w : World} {b : Nat} {al : List Int} (h : w.heap[b]? = some (.cells (cellsI al) 61 (0, 0))) (hl : al.length ≤ 9223372036854775807) : Kd.C (Kd.int .i64) w (some ⟨b, 0, none⟩) al.length al :=
  Kd.C_of_reads (d := 0) ⟨rfl, hl, fun _ => ⟨_, rfl, fun j hj => by
    have e := blk_cell h j
    have e2 : (cellsI al)[j]? = some (.int .i64 (al.getD j 0)) := by simp [cellsI, hj]
    rw [e2] at e
    rw [show (⟨b, 0, none⟩ : Addr).add j = ⟨b, j, none⟩ by simp [Addr.add]; exact fun h => h.symm]
    exact e⟩⟩
theorem cells_set (al : List Int) (j : Nat) (y : Int) : (cellsI al).setIfInBounds j (.int .i64 y) = cellsI (al.set j y) := by
  simp [cellsI, List.map_set]
theorem four {al : List Int} (h : al.length = 4) : ∃ x0 x1 x2 x3, al = [x0, x1, x2, x3] := by
  match al, h with
  | [x0, x1, x2, x3], _ => exact ⟨x0, x1, x2, x3, rfl⟩
set_option maxHeartbeats 4000000 in
set_option maxRecDepth 1000000 in
theorem hold_main (A1 : Option Addr) (c1 : Nat) (l : List S63) (w : World) (hr1 : Kd.C k63 w A1 l.length l) (_hc1 : l.length ≤ c1)
    (K : Nat) (kn : tontinelaw15_known.f K = some true) (pl : List (List Int)) (dm : List S44) (hB : tontinehelp_Base.f = some (8, 2, pl, dm)) (hdm : dm.length = 4) (h60 : ¬ (60 : Int) < (l.length : Int)) :
    Calls Try.prog 10 #[.slice A1 l.length c1] w fun e w' => e = .returned (.bool true) ∧ Below w.heap.size w w' := by
  have HDM := Goto.m0 hdm
  clear hdm
  go_enter Try.func10, Try.ntmps10
  go_wp2_with (first
    | (go_at_call 33
       refine (tontinelaw15_known.calls K true rfl _ kn).mono ?_
       rintro e w1 ⟨rfl, hb1⟩)
    | (go_at_call 35
       refine (tontinehelp_Base.calls 8 2 pl dm _ hB).mono ?_
       rintro e wB ⟨v2, v3, rfl, hN2, hN3, hbB⟩
       obtain ⟨A2, c2, rfl⟩ := Kd.N_slice hN2
       obtain ⟨A3, c3, rfl⟩ := Kd.N_slice hN3)
    | (go_at_call 34
       refine (latch_New.calls 8 2 A2 c2 pl A3 c3 dm 8 2 0 _ 0 _ _ (Kd.N_reads' hN2).2.2 (Kd.N_reads' hN2).2.1 (Kd.N_reads' hN3).2.2 (Kd.N_reads' hN3).2.1 (new_f 8 2 pl dm (by have := HDM.out; omega))).mono ?_
       rintro e wN ⟨u, v, g, rfl, hu, hv, hg, g0, hbN⟩))
  have hR : List.replicate dm.length (0 : Int) = [0, 0, 0, 0] := by rw [HDM.out]; rfl
  rw [hR] at hu hv
  have hS := LS.start (w0 := w) (hb1.trans (hbB.mono hb1.size)) hN2 hN3 hu hv hg g0 hbN #[.int .i64 0, .int .i64 0, .int .i64 0, .int .i64 0]
  have hc2 := (Kd.N_reads' hN2).2.1
  have hc3 := (Kd.N_reads' hN3).2.1
  clear hN2 hN3 hu hv hg
  go_loopw [5, 6] (fun v1 v2 wr => ∃ (i : Nat) (ap : Int) (al : List Int), i ≤ l.length ∧ al.length = 4 ∧ v1 = .int .i64 ap ∧ v2 = .int .i64 (i : Nat) ∧
      LS w wr g wN.heap.size 8 2 A2 c2 pl A3 c3 dm 0 [0, 0, 0, 0] ap al (cellsI al) (fun _ => True))
    (fun _ v _ => l.length - (Lib.intOf v).toNat)
  case atStart => exact ⟨0, 0, [0, 0, 0, 0], Nat.zero_le _, rfl, rfl, rfl, hS⟩
  case round =>
    clear hS
    obtain ⟨i, ap, al, hi, hal, rfl, rfl, hL⟩ := hrel
    have HAL := Goto.m0 hal
    clear hal
    have hu50 := Try.underlying50
    have hu54 := Try.underlying54
    by_cases hlt : i < l.length
    · obtain ⟨ad, rfl, f0, f1, f2⟩ := at_T63 (Kd.C_below hr1 hL.bel) (i : Int) (by omega) (by omega)
      simp only [Int.toNat_natCast] at f0 f1 f2
      generalize rd_T63 l (i : Int) = s at f0 f1 f2
      have hV := hL.var (.cells #[.int .i64 s.f0, .int .i64 s.f1, .int .i64 s.f2] 63)
      by_cases hwh : s.f0 ≤ 1
      · rcases hq : askP pl ap s.f2 with ⟨_ | er, ap'⟩
        · obtain rfl : ap' = s.f2 := askP_some hq
          go_wp2_with (first
            | (go_at_call 36
               refine (hV.levels hc2 hc3 (by decide)).mono ?_
               rintro e w2 ⟨A4, c4, rfl, hc4, hL2⟩)
            | (go_at_call 37
               refine (hL2.plan hc2 hc3).mono ?_
               rintro e w3 ⟨rfl, hL3⟩
               have q0 := (blk_cell hL3.now.1.2 0).trans rfl
               have q1 := (blk_cell hL3.now.1.2 1).trans rfl
               have q2 := (blk_cell hL3.now.1.2 2).trans rfl)
            | (go_at_call 38
               refine (hL3.askPlan hc2 hc3 s.f2).mono ?_
               rw [hq]
               rintro e w4 ⟨rfl, hL4⟩
               simp only [errW_none]
               have r2 := (blk_cell hL4.now.1.2 2).trans rfl)
            | (go_at_call 36
               refine (hL4.levels hc2 hc3 (by decide)).mono ?_
               rintro e w5 ⟨A5, c5, rfl, hc5, hL5⟩)
            | (go_at_call 17
               refine (tontineref1_SameInts.calls 50 A5 c5 [0, 0, 0, 0] A4 c4 [0, 0, 0, 0] true _ hL5.now.2 hc5 hL5.now.1.2 hc4 (ConfS.same_f _ (by decide) _ (by decide))).mono ?_
               rintro e w6 ⟨rfl, hd⟩
               have hL6 := hL5.below hd.below)
            | (go_at_call 37
               refine (hL6.plan hc2 hc3).mono ?_
               rintro e w7 ⟨rfl, hL7⟩))
          go_roundw
          case rel => exact ⟨i + 1, s.f2, al, by omega, HAL.out, rfl, by simp, hL7.imp (fun _ _ => trivial)⟩
          case measure =>
            simp [Lib.intOf]
            omega
        · obtain rfl : ap' = ap := by
            have h := askP_kept pl (p := ap) (i := s.f2) (by rw [hq]; rfl)
            rw [hq] at h
            exact h
          go_wp2_with (first
            | (go_at_call 36
               refine (hV.levels hc2 hc3 (by decide)).mono ?_
               rintro e w2 ⟨A4, c4, rfl, hc4, hL2⟩)
            | (go_at_call 37
               refine (hL2.plan hc2 hc3).mono ?_
               rintro e w3 ⟨rfl, hL3⟩
               have q0 := (blk_cell hL3.now.1.2 0).trans rfl
               have q1 := (blk_cell hL3.now.1.2 1).trans rfl
               have q2 := (blk_cell hL3.now.1.2 2).trans rfl)
            | (go_at_call 38
               refine (hL3.askPlan hc2 hc3 s.f2).mono ?_
               rw [hq]
               rintro e w4 ⟨rfl, hL4⟩
               simp only [errW_some]
               have r2 := (blk_cell hL4.now.1.2 2).trans rfl)
            | (go_at_call 36
               refine (hL4.levels hc2 hc3 (by decide)).mono ?_
               rintro e w5 ⟨A5, c5, rfl, hc5, hL5⟩)
            | (go_at_call 17
               refine (tontineref1_SameInts.calls 50 A5 c5 [0, 0, 0, 0] A4 c4 [0, 0, 0, 0] true _ hL5.now.2 hc5 hL5.now.1.2 hc4 (ConfS.same_f _ (by decide) _ (by decide))).mono ?_
               rintro e w6 ⟨rfl, hd⟩
               have hL6 := hL5.below hd.below)
            | (go_at_call 37
               refine (hL6.plan hc2 hc3).mono ?_
               rintro e w7 ⟨rfl, hL7⟩))
          go_roundw
          case rel => exact ⟨i + 1, ap', al, by omega, HAL.out, rfl, by simp, hL7.imp (fun _ _ => trivial)⟩
          case measure =>
            simp [Lib.intOf]
            omega
      · rcases hq : askL dm al s.f1 s.f2 with ⟨_ | er, al'⟩
        · obtain ⟨d0, d1, rfl⟩ := askL_some hq
          rw [HDM.out] at d1
          go_wp2_with (first
            | (go_at_call 36
               refine (hV.levels hc2 hc3 (by decide)).mono ?_
               rintro e w2 ⟨A4, c4, rfl, hc4, hL2⟩)
            | (go_at_call 37
               refine (hL2.plan hc2 hc3).mono ?_
               rintro e w3 ⟨rfl, hL3⟩
               have q0 := (blk_cell hL3.now.1.2 0).trans rfl
               have q1 := (blk_cell hL3.now.1.2 1).trans rfl
               have q2 := (blk_cell hL3.now.1.2 2).trans rfl)
            | (go_at_call 39
               refine (hL3.askLevel hc2 hc3 (by rw [HAL.out, HDM.out]) s.f1 s.f2).mono ?_
               rw [hq]
               rintro e w4 ⟨rfl, hL4⟩
               simp only [errW_none]
               have r1 := (blk_cell hL4.now.1.2 1).trans rfl
               have r2 := (blk_cell hL4.now.1.2 2).trans rfl
               have hfr := blk_frozen hL4.arr s.f1.toNat
               have hce : w4.cell? ⟨wN.heap.size, s.f1.toNat, none⟩ = some (.int .i64 (al.getD s.f1.toNat 0)) := (blk_cell hL4.arr s.f1.toNat).trans (by have := HAL.out; simp [cellsI, show s.f1.toNat < al.length by omega])
               have hLp := hL4.put s.f1.toNat (.int .i64 s.f2)
               rw [cells_set] at hLp)
            | (go_at_call 36
               refine (hLp.levels hc2 hc3 (by decide)).mono ?_
               rintro e w5 ⟨A5, c5, rfl, hc5, hL5⟩)
            | (go_at_call 17
               refine (tontineref1_SameInts.calls 50 A5 c5 [0, 0, 0, 0] A4 c4 [0, 0, 0, 0] true _ hL5.now.2 hc5 hL5.now.1.2 hc4 (ConfS.same_f _ (by decide) _ (by decide))).mono ?_
               rintro e w6 ⟨rfl, hd⟩
               have hL6 := hL5.below hd.below)
            | (go_at_call 37
               refine (hL6.plan hc2 hc3).mono ?_
               rintro e w7 ⟨rfl, hL7⟩))
          go_roundw
          case rel => exact ⟨i + 1, ap, al.set s.f1.toNat s.f2, by omega, by rw [List.length_set]; exact HAL.out, rfl, by simp, hL7.imp (fun _ _ => trivial)⟩
          case measure =>
            simp [Lib.intOf]
            omega
        · obtain rfl : al' = al := by
            have h := askL_kept dm (l := al) (d := s.f1) (v := s.f2) (by rw [hq]; rfl)
            rw [hq] at h
            exact h
          go_wp2_with (first
            | (go_at_call 36
               refine (hV.levels hc2 hc3 (by decide)).mono ?_
               rintro e w2 ⟨A4, c4, rfl, hc4, hL2⟩)
            | (go_at_call 37
               refine (hL2.plan hc2 hc3).mono ?_
               rintro e w3 ⟨rfl, hL3⟩
               have q0 := (blk_cell hL3.now.1.2 0).trans rfl
               have q1 := (blk_cell hL3.now.1.2 1).trans rfl
               have q2 := (blk_cell hL3.now.1.2 2).trans rfl)
            | (go_at_call 39
               refine (hL3.askLevel hc2 hc3 (by rw [HAL.out, HDM.out]) s.f1 s.f2).mono ?_
               rw [hq]
               rintro e w4 ⟨rfl, hL4⟩
               simp only [errW_some]
               have r1 := (blk_cell hL4.now.1.2 1).trans rfl
               have r2 := (blk_cell hL4.now.1.2 2).trans rfl)
            | (go_at_call 36
               refine (hL4.levels hc2 hc3 (by decide)).mono ?_
               rintro e w5 ⟨A5, c5, rfl, hc5, hL5⟩)
            | (go_at_call 17
               refine (tontineref1_SameInts.calls 50 A5 c5 [0, 0, 0, 0] A4 c4 [0, 0, 0, 0] true _ hL5.now.2 hc5 hL5.now.1.2 hc4 (ConfS.same_f _ (by decide) _ (by decide))).mono ?_
               rintro e w6 ⟨rfl, hd⟩
               have hL6 := hL5.below hd.below)
            | (go_at_call 37
               refine (hL6.plan hc2 hc3).mono ?_
               rintro e w7 ⟨rfl, hL7⟩))
          go_roundw
          case rel => exact ⟨i + 1, ap, al', by omega, HAL.out, rfl, by simp, hL7.imp (fun _ _ => trivial)⟩
          case measure =>
            simp [Lib.intOf]
            omega
    · obtain rfl : i = l.length := by omega
      go_wp2_with (first
        | (go_at_call 40
           refine (hL.turn hc2 hc3 (by rw [HAL.out]; rfl) (by rw [HAL.out]; decide)).mono ?_
           rintro e w2 ⟨rfl, hL2⟩))
      obtain ⟨x0, x1, x2, x3, rfl⟩ := four HAL.out
      have hLd := hL2.below (below_drew (Below.refl w2.heap.size w2))
      go_region_held_law (fun w' => True) (go_keep)
        (first
          | (go_at_call 37
             refine (hLd.plan hc2 hc3).mono ?_
             rintro e w3 ⟨rfl, hL3⟩)
          | (go_at_call 36
             refine (hL3.levels hc2 hc3 (by simp)).mono ?_
             rintro e w4 ⟨A4, c4, rfl, hc4, hL4⟩)
          | (go_at_call 17
             refine (tontineref1_SameInts.calls 50 A4 c4 [x0, x1, x2, x3] (some ⟨wN.heap.size, 0, none⟩) 4 [x0, x1, x2, x3] true _ hL4.now.2 hc4 (arr_C hL4.arr (by simp)) (Nat.le_refl _) (ConfS.same_f _ (by simp) _ (by simp))).mono ?_
             rintro e w5 ⟨rfl, hd⟩
             have hL5 := hL4.below hd.below))
      all_goals (
        go_wp2
        go_ret
        exact ⟨rfl, hL5.bel⟩)
set_option maxHeartbeats 1000000 in
set_option maxRecDepth 1000000 in
theorem hold_calls (A1 : Option Addr) (c1 : Nat) (l : List S63) (w : World) (hr1 : Kd.C k63 w A1 l.length l) (hc1 : l.length ≤ c1) :
    Calls Try.prog 10 #[.slice A1 l.length c1] w fun e w' => e = .returned (.bool true) ∧ Below w.heap.size w w' := by
  obtain ⟨K, kn⟩ : ∃ K, tontinelaw15_known.f K = some true := by
    obtain ⟨K, h⟩ := known_f
    exact ⟨K, h K (Nat.le_refl _)⟩
  by_cases h60 : (60 : Int) < (l.length : Int)
  · go_enter Try.func10, Try.ntmps10
    go_wp2_with (first
      | (go_at_call 33
         refine (tontinelaw15_known.calls K true rfl _ kn).mono ?_
         rintro e w1 ⟨rfl, hb1⟩))
    go_ret
    exact ⟨rfl, hb1⟩
  · exact hold_main A1 c1 l w hr1 hc1 K kn _ _ rfl rfl h60
end Go.Proofs.Ytbhfkhcedjgpdaa.P
