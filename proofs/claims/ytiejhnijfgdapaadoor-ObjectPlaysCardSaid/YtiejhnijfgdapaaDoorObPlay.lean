/- Every row of waits, signals, drops: the law, walked by hand over the objects' and the reference's contracts. -/
import Derived.Test.YtiejhnijfgdapaaDoorObU
import Derived.WalkKit
import Derived.Sort.WalkA
namespace Go.Proofs.YtiejhnijfgdapaaDoor.P
open Go Go.RowKit Go.Proofs.YtiejhnijfgdapaaDoor Go.Proofs.YtiejhnijfgdapaaDoor.ObjR Go.Proofs.YtiejhnijfgdapaaDoor.ObjQ Go.Proofs.YtiejhnijfgdapaaDoorW.PrintWords Go.Proofs.YtiejhnijfgdapaaDoorW.PrintLast Go.Proofs.YtiejhnijfgdapaaDoorW.PrintMore
set_option linter.unusedVariables false
set_option maxHeartbeats 8000000 in
set_option maxRecDepth 1000000 in
theorem plays_main (A0 : Option Addr) (c0 : Nat) (l : List S57) (w : World) (hld : LD w) (hr : Kd.C k57 w A0 l.length l) (hc : l.length ≤ c0) (h80 : ¬ (80 : Int) < (l.length : Int)) :
    Calls Tryd.prog 4 #[.slice A0 l.length c0] w fun e w' => e = .returned (.bool true) ∧ Below w.heap.size w w' := by
  have hu55 := Tryd.underlying55
  have hu57 := Tryd.underlying57
  go_enter Tryd.func4, Tryd.ntmps4
  go_wp2_with (first
    | (go_at_call 20
       refine (tontinelaw9_known.calls 16 true rfl _ (known_f 0)).mono ?_
       rintro e w1 ⟨rfl, hb1⟩)
    | (go_at_call 21
       refine (object_New.calls 0 [] 0 [] 0 [] 0 [] _ rfl).mono ?_
       rintro e w2 ⟨v1, v3, v5, v7, g, rfl, h1, h3, h5, h7, hg, g0, hb2⟩))
  have hS := JS.start hb1 h1 h3 h5 h7 hg g0 hb2
  clear h1 h3 h5 h7 hg
  go_loopw [5] (fun v4 wr => ∃ (i : Nat) (t : St), i ≤ l.length ∧ v4 = .int .i64 (i : Nat) ∧ JS w wr g w2.heap.size t t ∧ Uniq t ∧ Short i t)
    (fun v _ => l.length - (Lib.intOf v).toNat)
  case atStart => exact ⟨0, st0, Nat.zero_le _, rfl, hS, (fun a b ha hb _ x hx => by rcases lt4 ha with rfl | rfl | rfl | rfl <;> cases hx), (fun a ha => by rcases lt4 ha with rfl | rfl | rfl | rfl <;> exact Nat.zero_le _)⟩
  case round =>
    clear hS
    obtain ⟨i, t, hi, rfl, hJ0, hU0, hS0⟩ := hrel
    by_cases hlt : i < l.length
    · obtain ⟨ad, rfl, f0, f1, f2⟩ := at_T57 (Kd.C_below hr hJ0.bel) (i : Int) (by omega) (by omega)
      simp only [Int.toNat_natCast] at f0 f1 f2
      generalize rd_T57 l (i : Int) = s at f0 f1 f2
      have hV := hJ0.var #[.int .i64 s.f0, .int .i64 s.f1, .int .i64 s.f2]
      by_cases hw : s.f0 ≤ 2
      · obtain ⟨b, er, x, t2, hU2, hS2, hA, hB, hC⟩ := both_wait t hU0 hS0 (by omega) hld g w2.heap.size s.f1 s.f2
        skip
        all_goals (
          go_wp2_with (first
            | (go_at_call 22
               have hq_ := hA _ _ _ hV
               with_reducible refine hq_.mono ?_
               clear hq_
               rintro e w3 ⟨rfl, hJ1⟩
               have p0 : w3.cell? ⟨wr.heap.size, 0, none⟩ = some (.int .i64 s.f0) := (blk_cell hJ1.blk 0).trans rfl
               have p1 : w3.cell? ⟨wr.heap.size, 1, none⟩ = some (.int .i64 s.f1) := (blk_cell hJ1.blk 1).trans rfl
               have p2 : w3.cell? ⟨wr.heap.size, 2, none⟩ = some (.int .i64 s.f2) := (blk_cell hJ1.blk 2).trans rfl)
            | (go_at_call 23
               have hq_ := hB _ _ _ hJ1
               with_reducible refine hq_.mono ?_
               clear hq_
               rintro e w4 ⟨rfl, hJ2⟩)
            | (go_at_call 24
               have hq_ := hC _ _ _ hJ2
               with_reducible refine hq_.mono ?_
               clear hq_
               rintro e w5 ⟨rfl, hJ3⟩))
          have hI := hJ3
          clear hA hB hC hV
          go_loopw [17] (fun v16 wr => ∃ (z : Int) (bb : Nat) (cs : Array Value), -1 ≤ z ∧ z ≤ 5 ∧ v16 = .int .i64 z ∧ JF w wr g w2.heap.size bb cs t2 t2) (fun v _ => (5 - Lib.intOf v).toNat)
          case atStart => exact ⟨-1, _, _, by omega, by omega, rfl, hI⟩
          case round =>
            clear hI
            obtain ⟨z, bb, cs, z0, z5, rfl, hK⟩ := hrel
            rcases (show z = -1 ∨ z = 0 ∨ z = 1 ∨ z = 2 ∨ z = 3 ∨ z = 4 ∨ z = 5 by omega) with rfl | rfl | rfl | rfl | rfl | rfl | rfl
            · go_wp2_with (first
                | (go_at_call 29
                   refine (hK.count_out (-1) (by omega)).mono ?_
                   rintro e wc ⟨rfl, hK1⟩)
                | (go_at_call 30
                   refine (hK1.row_out (-1) (by omega)).mono ?_
                   rintro e wd ⟨A, c, rfl, hK2⟩))
              go_roundw
              case rel => exact ⟨0, _, _, by omega, by omega, rfl, hK2⟩
              case measure => simp [Lib.intOf]
            · go_wp2_with fail
              have hKd := hK.below (below_drew (Below.refl _ _))
              obtain ⟨B, d, hd0, hcC, hcW, hdc⟩ := hKd.see0 hS2 (by omega)
              go_region_held_law (fun w' => w'.cell? ⟨w2.heap.size, 0, none⟩ = some (.int .i64 (cnt t2 0)) ∧ w'.cell? ⟨w2.heap.size, 4, none⟩ = some (.slice B (row t2 0).length d)) (first | (constructor <;> assumption) | go_keep)
                (first
                  | (go_at_call 29
                     with_reducible refine hdc.mono ?_
                     rintro e wc ⟨rfl, hcC1, hcW1, hdr⟩)
                  | (go_at_call 30
                     with_reducible refine hdr.mono ?_
                     rintro e wd ⟨A, c, rfl, hc1, hC1, hK2, hcC2, hcW2, hCB⟩)
                  | (go_at_call 31
                     refine (same_calls (z := 0) hS2 (by omega) (by omega) rfl hC1 hc1 hCB hd0).mono ?_
                     rintro e we ⟨rfl, hd⟩
                     have hcC3 := (hd.cell (World.block_lt_of_cell? _ _ hcC2)).trans hcC2
                     have hcW3 := (hd.cell (World.block_lt_of_cell? _ _ hcW2)).trans hcW2
                     have hK3 := hK2.below hd))
              all_goals (
                go_wp2
                go_roundw
                case rel => exact ⟨1, _, _, by omega, by omega, rfl, hK3⟩
                case measure => simp [Lib.intOf])
            · go_wp2_with fail
              have hKd := hK.below (below_drew (Below.refl _ _))
              obtain ⟨B, d, hd0, hcC, hcW, hdc⟩ := hKd.see1 hS2 (by omega)
              go_region_held_law (fun w' => w'.cell? ⟨w2.heap.size, 1, none⟩ = some (.int .i64 (cnt t2 1)) ∧ w'.cell? ⟨w2.heap.size, 5, none⟩ = some (.slice B (row t2 1).length d)) (first | (constructor <;> assumption) | go_keep)
                (first
                  | (go_at_call 29
                     with_reducible refine hdc.mono ?_
                     rintro e wc ⟨rfl, hcC1, hcW1, hdr⟩)
                  | (go_at_call 30
                     with_reducible refine hdr.mono ?_
                     rintro e wd ⟨A, c, rfl, hc1, hC1, hK2, hcC2, hcW2, hCB⟩)
                  | (go_at_call 31
                     refine (same_calls (z := 1) hS2 (by omega) (by omega) rfl hC1 hc1 hCB hd0).mono ?_
                     rintro e we ⟨rfl, hd⟩
                     have hcC3 := (hd.cell (World.block_lt_of_cell? _ _ hcC2)).trans hcC2
                     have hcW3 := (hd.cell (World.block_lt_of_cell? _ _ hcW2)).trans hcW2
                     have hK3 := hK2.below hd))
              all_goals (
                go_wp2
                go_roundw
                case rel => exact ⟨2, _, _, by omega, by omega, rfl, hK3⟩
                case measure => simp [Lib.intOf])
            · go_wp2_with fail
              have hKd := hK.below (below_drew (Below.refl _ _))
              obtain ⟨B, d, hd0, hcC, hcW, hdc⟩ := hKd.see2 hS2 (by omega)
              go_region_held_law (fun w' => w'.cell? ⟨w2.heap.size, 2, none⟩ = some (.int .i64 (cnt t2 2)) ∧ w'.cell? ⟨w2.heap.size, 6, none⟩ = some (.slice B (row t2 2).length d)) (first | (constructor <;> assumption) | go_keep)
                (first
                  | (go_at_call 29
                     with_reducible refine hdc.mono ?_
                     rintro e wc ⟨rfl, hcC1, hcW1, hdr⟩)
                  | (go_at_call 30
                     with_reducible refine hdr.mono ?_
                     rintro e wd ⟨A, c, rfl, hc1, hC1, hK2, hcC2, hcW2, hCB⟩)
                  | (go_at_call 31
                     refine (same_calls (z := 2) hS2 (by omega) (by omega) rfl hC1 hc1 hCB hd0).mono ?_
                     rintro e we ⟨rfl, hd⟩
                     have hcC3 := (hd.cell (World.block_lt_of_cell? _ _ hcC2)).trans hcC2
                     have hcW3 := (hd.cell (World.block_lt_of_cell? _ _ hcW2)).trans hcW2
                     have hK3 := hK2.below hd))
              all_goals (
                go_wp2
                go_roundw
                case rel => exact ⟨3, _, _, by omega, by omega, rfl, hK3⟩
                case measure => simp [Lib.intOf])
            · go_wp2_with fail
              have hKd := hK.below (below_drew (Below.refl _ _))
              obtain ⟨B, d, hd0, hcC, hcW, hdc⟩ := hKd.see3 hS2 (by omega)
              go_region_held_law (fun w' => w'.cell? ⟨w2.heap.size, 3, none⟩ = some (.int .i64 (cnt t2 3)) ∧ w'.cell? ⟨w2.heap.size, 7, none⟩ = some (.slice B (row t2 3).length d)) (first | (constructor <;> assumption) | go_keep)
                (first
                  | (go_at_call 29
                     with_reducible refine hdc.mono ?_
                     rintro e wc ⟨rfl, hcC1, hcW1, hdr⟩)
                  | (go_at_call 30
                     with_reducible refine hdr.mono ?_
                     rintro e wd ⟨A, c, rfl, hc1, hC1, hK2, hcC2, hcW2, hCB⟩)
                  | (go_at_call 31
                     refine (same_calls (z := 3) hS2 (by omega) (by omega) rfl hC1 hc1 hCB hd0).mono ?_
                     rintro e we ⟨rfl, hd⟩
                     have hcC3 := (hd.cell (World.block_lt_of_cell? _ _ hcC2)).trans hcC2
                     have hcW3 := (hd.cell (World.block_lt_of_cell? _ _ hcW2)).trans hcW2
                     have hK3 := hK2.below hd))
              all_goals (
                go_wp2
                go_roundw
                case rel => exact ⟨4, _, _, by omega, by omega, rfl, hK3⟩
                case measure => simp [Lib.intOf])
            · go_wp2_with (first
                | (go_at_call 29
                   refine (hK.count_out (4) (by omega)).mono ?_
                   rintro e wc ⟨rfl, hK1⟩)
                | (go_at_call 30
                   refine (hK1.row_out (4) (by omega)).mono ?_
                   rintro e wd ⟨A, c, rfl, hK2⟩))
              go_roundw
              case rel => exact ⟨5, _, _, by omega, by omega, rfl, hK2⟩
              case measure => simp [Lib.intOf]
            · go_wp2
              go_roundw
              case rel => exact ⟨i + 1, t2, by omega, by simp, hK.js, hU2, hS2⟩
              case measure =>
                simp [Lib.intOf]
                omega)
      · by_cases hs : s.f0 ≤ 5
        · obtain ⟨y, b, er, x, t2, hU2, hS2, hA, hB, hC⟩ := both_signal t hU0 hS0 hld g w2.heap.size s.f2
          skip
          all_goals (
            go_wp2_with (first
              | (go_at_call 25
                 have hq_ := hA _ _ _ hV
                 with_reducible refine hq_.mono ?_
                 clear hq_
                 rintro e w3 ⟨rfl, hJ1⟩
                 have p0 : w3.cell? ⟨wr.heap.size, 0, none⟩ = some (.int .i64 s.f0) := (blk_cell hJ1.blk 0).trans rfl
                 have p1 : w3.cell? ⟨wr.heap.size, 1, none⟩ = some (.int .i64 s.f1) := (blk_cell hJ1.blk 1).trans rfl
                 have p2 : w3.cell? ⟨wr.heap.size, 2, none⟩ = some (.int .i64 s.f2) := (blk_cell hJ1.blk 2).trans rfl)
              | (go_at_call 26
                 have hq_ := hB _ _ _ hJ1
                 with_reducible refine hq_.mono ?_
                 clear hq_
                 rintro e w4 ⟨rfl, hJ2⟩)
              | (go_at_call 24
                 have hq_ := hC _ _ _ hJ2
                 with_reducible refine hq_.mono ?_
                 clear hq_
                 rintro e w5 ⟨rfl, hJ3⟩))
            have hI := hJ3
            clear hA hB hC hV
            go_loopw [17] (fun v16 wr => ∃ (z : Int) (bb : Nat) (cs : Array Value), -1 ≤ z ∧ z ≤ 5 ∧ v16 = .int .i64 z ∧ JF w wr g w2.heap.size bb cs t2 t2) (fun v _ => (5 - Lib.intOf v).toNat)
            case atStart => exact ⟨-1, _, _, by omega, by omega, rfl, hI⟩
            case round =>
              clear hI
              obtain ⟨z, bb, cs, z0, z5, rfl, hK⟩ := hrel
              rcases (show z = -1 ∨ z = 0 ∨ z = 1 ∨ z = 2 ∨ z = 3 ∨ z = 4 ∨ z = 5 by omega) with rfl | rfl | rfl | rfl | rfl | rfl | rfl
              · go_wp2_with (first
                  | (go_at_call 29
                     refine (hK.count_out (-1) (by omega)).mono ?_
                     rintro e wc ⟨rfl, hK1⟩)
                  | (go_at_call 30
                     refine (hK1.row_out (-1) (by omega)).mono ?_
                     rintro e wd ⟨A, c, rfl, hK2⟩))
                go_roundw
                case rel => exact ⟨0, _, _, by omega, by omega, rfl, hK2⟩
                case measure => simp [Lib.intOf]
              · go_wp2_with fail
                have hKd := hK.below (below_drew (Below.refl _ _))
                obtain ⟨B, d, hd0, hcC, hcW, hdc⟩ := hKd.see0 hS2 (by omega)
                go_region_held_law (fun w' => w'.cell? ⟨w2.heap.size, 0, none⟩ = some (.int .i64 (cnt t2 0)) ∧ w'.cell? ⟨w2.heap.size, 4, none⟩ = some (.slice B (row t2 0).length d)) (first | (constructor <;> assumption) | go_keep)
                  (first
                    | (go_at_call 29
                       with_reducible refine hdc.mono ?_
                       rintro e wc ⟨rfl, hcC1, hcW1, hdr⟩)
                    | (go_at_call 30
                       with_reducible refine hdr.mono ?_
                       rintro e wd ⟨A, c, rfl, hc1, hC1, hK2, hcC2, hcW2, hCB⟩)
                    | (go_at_call 31
                       refine (same_calls (z := 0) hS2 (by omega) (by omega) rfl hC1 hc1 hCB hd0).mono ?_
                       rintro e we ⟨rfl, hd⟩
                       have hcC3 := (hd.cell (World.block_lt_of_cell? _ _ hcC2)).trans hcC2
                       have hcW3 := (hd.cell (World.block_lt_of_cell? _ _ hcW2)).trans hcW2
                       have hK3 := hK2.below hd))
                all_goals (
                  go_wp2
                  go_roundw
                  case rel => exact ⟨1, _, _, by omega, by omega, rfl, hK3⟩
                  case measure => simp [Lib.intOf])
              · go_wp2_with fail
                have hKd := hK.below (below_drew (Below.refl _ _))
                obtain ⟨B, d, hd0, hcC, hcW, hdc⟩ := hKd.see1 hS2 (by omega)
                go_region_held_law (fun w' => w'.cell? ⟨w2.heap.size, 1, none⟩ = some (.int .i64 (cnt t2 1)) ∧ w'.cell? ⟨w2.heap.size, 5, none⟩ = some (.slice B (row t2 1).length d)) (first | (constructor <;> assumption) | go_keep)
                  (first
                    | (go_at_call 29
                       with_reducible refine hdc.mono ?_
                       rintro e wc ⟨rfl, hcC1, hcW1, hdr⟩)
                    | (go_at_call 30
                       with_reducible refine hdr.mono ?_
                       rintro e wd ⟨A, c, rfl, hc1, hC1, hK2, hcC2, hcW2, hCB⟩)
                    | (go_at_call 31
                       refine (same_calls (z := 1) hS2 (by omega) (by omega) rfl hC1 hc1 hCB hd0).mono ?_
                       rintro e we ⟨rfl, hd⟩
                       have hcC3 := (hd.cell (World.block_lt_of_cell? _ _ hcC2)).trans hcC2
                       have hcW3 := (hd.cell (World.block_lt_of_cell? _ _ hcW2)).trans hcW2
                       have hK3 := hK2.below hd))
                all_goals (
                  go_wp2
                  go_roundw
                  case rel => exact ⟨2, _, _, by omega, by omega, rfl, hK3⟩
                  case measure => simp [Lib.intOf])
              · go_wp2_with fail
                have hKd := hK.below (below_drew (Below.refl _ _))
                obtain ⟨B, d, hd0, hcC, hcW, hdc⟩ := hKd.see2 hS2 (by omega)
                go_region_held_law (fun w' => w'.cell? ⟨w2.heap.size, 2, none⟩ = some (.int .i64 (cnt t2 2)) ∧ w'.cell? ⟨w2.heap.size, 6, none⟩ = some (.slice B (row t2 2).length d)) (first | (constructor <;> assumption) | go_keep)
                  (first
                    | (go_at_call 29
                       with_reducible refine hdc.mono ?_
                       rintro e wc ⟨rfl, hcC1, hcW1, hdr⟩)
                    | (go_at_call 30
                       with_reducible refine hdr.mono ?_
                       rintro e wd ⟨A, c, rfl, hc1, hC1, hK2, hcC2, hcW2, hCB⟩)
                    | (go_at_call 31
                       refine (same_calls (z := 2) hS2 (by omega) (by omega) rfl hC1 hc1 hCB hd0).mono ?_
                       rintro e we ⟨rfl, hd⟩
                       have hcC3 := (hd.cell (World.block_lt_of_cell? _ _ hcC2)).trans hcC2
                       have hcW3 := (hd.cell (World.block_lt_of_cell? _ _ hcW2)).trans hcW2
                       have hK3 := hK2.below hd))
                all_goals (
                  go_wp2
                  go_roundw
                  case rel => exact ⟨3, _, _, by omega, by omega, rfl, hK3⟩
                  case measure => simp [Lib.intOf])
              · go_wp2_with fail
                have hKd := hK.below (below_drew (Below.refl _ _))
                obtain ⟨B, d, hd0, hcC, hcW, hdc⟩ := hKd.see3 hS2 (by omega)
                go_region_held_law (fun w' => w'.cell? ⟨w2.heap.size, 3, none⟩ = some (.int .i64 (cnt t2 3)) ∧ w'.cell? ⟨w2.heap.size, 7, none⟩ = some (.slice B (row t2 3).length d)) (first | (constructor <;> assumption) | go_keep)
                  (first
                    | (go_at_call 29
                       with_reducible refine hdc.mono ?_
                       rintro e wc ⟨rfl, hcC1, hcW1, hdr⟩)
                    | (go_at_call 30
                       with_reducible refine hdr.mono ?_
                       rintro e wd ⟨A, c, rfl, hc1, hC1, hK2, hcC2, hcW2, hCB⟩)
                    | (go_at_call 31
                       refine (same_calls (z := 3) hS2 (by omega) (by omega) rfl hC1 hc1 hCB hd0).mono ?_
                       rintro e we ⟨rfl, hd⟩
                       have hcC3 := (hd.cell (World.block_lt_of_cell? _ _ hcC2)).trans hcC2
                       have hcW3 := (hd.cell (World.block_lt_of_cell? _ _ hcW2)).trans hcW2
                       have hK3 := hK2.below hd))
                all_goals (
                  go_wp2
                  go_roundw
                  case rel => exact ⟨4, _, _, by omega, by omega, rfl, hK3⟩
                  case measure => simp [Lib.intOf])
              · go_wp2_with (first
                  | (go_at_call 29
                     refine (hK.count_out (4) (by omega)).mono ?_
                     rintro e wc ⟨rfl, hK1⟩)
                  | (go_at_call 30
                     refine (hK1.row_out (4) (by omega)).mono ?_
                     rintro e wd ⟨A, c, rfl, hK2⟩))
                go_roundw
                case rel => exact ⟨5, _, _, by omega, by omega, rfl, hK2⟩
                case measure => simp [Lib.intOf]
              · go_wp2
                go_roundw
                case rel => exact ⟨i + 1, t2, by omega, by simp, hK.js, hU2, hS2⟩
                case measure =>
                  simp [Lib.intOf]
                  omega)
        · obtain ⟨b, t2, hU2, hS2, hA, hB⟩ := both_drop t hU0 hS0 (by omega) w g w2.heap.size s.f1
          have q0_ := (blk_cell hV.blk 0).trans rfl
          have q1_ := (blk_cell hV.blk 1).trans rfl
          go_wp2
          have hV' := hV.below (below_drew (Below.refl _ _))
          skip
          all_goals (
            go_region_held_law (fun w' => w'.cell? ⟨wr.heap.size, 1, none⟩ = some (.int .i64 s.f1)) (first | assumption | go_keep)
              (first
                | (go_at_call 27
                   have hq_ := hA _ _ _ hV'
                   with_reducible refine hq_.mono ?_
                   clear hq_
                   rintro e w3 ⟨rfl, hJ1⟩
                   have p0 : w3.cell? ⟨wr.heap.size, 0, none⟩ = some (.int .i64 s.f0) := (blk_cell hJ1.blk 0).trans rfl
                   have p1 : w3.cell? ⟨wr.heap.size, 1, none⟩ = some (.int .i64 s.f1) := (blk_cell hJ1.blk 1).trans rfl
                   have p2 : w3.cell? ⟨wr.heap.size, 2, none⟩ = some (.int .i64 s.f2) := (blk_cell hJ1.blk 2).trans rfl)
                | (go_at_call 28
                   have hq_ := hB _ _ _ hJ1
                   with_reducible refine hq_.mono ?_
                   clear hq_
                   rintro e w4 ⟨rfl, hJ2⟩
                   have p3 : w4.cell? ⟨wr.heap.size, 1, none⟩ = some (.int .i64 s.f1) := (blk_cell hJ2.blk 1).trans rfl))
            all_goals (
              go_wp2
              have hI := hJ2
              clear hA hB hV
              go_loopw [17] (fun v16 wr => ∃ (z : Int) (bb : Nat) (cs : Array Value), -1 ≤ z ∧ z ≤ 5 ∧ v16 = .int .i64 z ∧ JF w wr g w2.heap.size bb cs t2 t2) (fun v _ => (5 - Lib.intOf v).toNat)
              case atStart => exact ⟨-1, _, _, by omega, by omega, rfl, hI⟩
              case round =>
                clear hI
                obtain ⟨z, bb, cs, z0, z5, rfl, hK⟩ := hrel
                rcases (show z = -1 ∨ z = 0 ∨ z = 1 ∨ z = 2 ∨ z = 3 ∨ z = 4 ∨ z = 5 by omega) with rfl | rfl | rfl | rfl | rfl | rfl | rfl
                · go_wp2_with (first
                    | (go_at_call 29
                       refine (hK.count_out (-1) (by omega)).mono ?_
                       rintro e wc ⟨rfl, hK1⟩)
                    | (go_at_call 30
                       refine (hK1.row_out (-1) (by omega)).mono ?_
                       rintro e wd ⟨A, c, rfl, hK2⟩))
                  go_roundw
                  case rel => exact ⟨0, _, _, by omega, by omega, rfl, hK2⟩
                  case measure => simp [Lib.intOf]
                · go_wp2_with fail
                  have hKd := hK.below (below_drew (Below.refl _ _))
                  obtain ⟨B, d, hd0, hcC, hcW, hdc⟩ := hKd.see0 hS2 (by omega)
                  go_region_held_law (fun w' => w'.cell? ⟨w2.heap.size, 0, none⟩ = some (.int .i64 (cnt t2 0)) ∧ w'.cell? ⟨w2.heap.size, 4, none⟩ = some (.slice B (row t2 0).length d)) (first | (constructor <;> assumption) | go_keep)
                    (first
                      | (go_at_call 29
                         with_reducible refine hdc.mono ?_
                         rintro e wc ⟨rfl, hcC1, hcW1, hdr⟩)
                      | (go_at_call 30
                         with_reducible refine hdr.mono ?_
                         rintro e wd ⟨A, c, rfl, hc1, hC1, hK2, hcC2, hcW2, hCB⟩)
                      | (go_at_call 31
                         refine (same_calls (z := 0) hS2 (by omega) (by omega) rfl hC1 hc1 hCB hd0).mono ?_
                         rintro e we ⟨rfl, hd⟩
                         have hcC3 := (hd.cell (World.block_lt_of_cell? _ _ hcC2)).trans hcC2
                         have hcW3 := (hd.cell (World.block_lt_of_cell? _ _ hcW2)).trans hcW2
                         have hK3 := hK2.below hd))
                  all_goals (
                    go_wp2
                    go_roundw
                    case rel => exact ⟨1, _, _, by omega, by omega, rfl, hK3⟩
                    case measure => simp [Lib.intOf])
                · go_wp2_with fail
                  have hKd := hK.below (below_drew (Below.refl _ _))
                  obtain ⟨B, d, hd0, hcC, hcW, hdc⟩ := hKd.see1 hS2 (by omega)
                  go_region_held_law (fun w' => w'.cell? ⟨w2.heap.size, 1, none⟩ = some (.int .i64 (cnt t2 1)) ∧ w'.cell? ⟨w2.heap.size, 5, none⟩ = some (.slice B (row t2 1).length d)) (first | (constructor <;> assumption) | go_keep)
                    (first
                      | (go_at_call 29
                         with_reducible refine hdc.mono ?_
                         rintro e wc ⟨rfl, hcC1, hcW1, hdr⟩)
                      | (go_at_call 30
                         with_reducible refine hdr.mono ?_
                         rintro e wd ⟨A, c, rfl, hc1, hC1, hK2, hcC2, hcW2, hCB⟩)
                      | (go_at_call 31
                         refine (same_calls (z := 1) hS2 (by omega) (by omega) rfl hC1 hc1 hCB hd0).mono ?_
                         rintro e we ⟨rfl, hd⟩
                         have hcC3 := (hd.cell (World.block_lt_of_cell? _ _ hcC2)).trans hcC2
                         have hcW3 := (hd.cell (World.block_lt_of_cell? _ _ hcW2)).trans hcW2
                         have hK3 := hK2.below hd))
                  all_goals (
                    go_wp2
                    go_roundw
                    case rel => exact ⟨2, _, _, by omega, by omega, rfl, hK3⟩
                    case measure => simp [Lib.intOf])
                · go_wp2_with fail
                  have hKd := hK.below (below_drew (Below.refl _ _))
                  obtain ⟨B, d, hd0, hcC, hcW, hdc⟩ := hKd.see2 hS2 (by omega)
                  go_region_held_law (fun w' => w'.cell? ⟨w2.heap.size, 2, none⟩ = some (.int .i64 (cnt t2 2)) ∧ w'.cell? ⟨w2.heap.size, 6, none⟩ = some (.slice B (row t2 2).length d)) (first | (constructor <;> assumption) | go_keep)
                    (first
                      | (go_at_call 29
                         with_reducible refine hdc.mono ?_
                         rintro e wc ⟨rfl, hcC1, hcW1, hdr⟩)
                      | (go_at_call 30
                         with_reducible refine hdr.mono ?_
                         rintro e wd ⟨A, c, rfl, hc1, hC1, hK2, hcC2, hcW2, hCB⟩)
                      | (go_at_call 31
                         refine (same_calls (z := 2) hS2 (by omega) (by omega) rfl hC1 hc1 hCB hd0).mono ?_
                         rintro e we ⟨rfl, hd⟩
                         have hcC3 := (hd.cell (World.block_lt_of_cell? _ _ hcC2)).trans hcC2
                         have hcW3 := (hd.cell (World.block_lt_of_cell? _ _ hcW2)).trans hcW2
                         have hK3 := hK2.below hd))
                  all_goals (
                    go_wp2
                    go_roundw
                    case rel => exact ⟨3, _, _, by omega, by omega, rfl, hK3⟩
                    case measure => simp [Lib.intOf])
                · go_wp2_with fail
                  have hKd := hK.below (below_drew (Below.refl _ _))
                  obtain ⟨B, d, hd0, hcC, hcW, hdc⟩ := hKd.see3 hS2 (by omega)
                  go_region_held_law (fun w' => w'.cell? ⟨w2.heap.size, 3, none⟩ = some (.int .i64 (cnt t2 3)) ∧ w'.cell? ⟨w2.heap.size, 7, none⟩ = some (.slice B (row t2 3).length d)) (first | (constructor <;> assumption) | go_keep)
                    (first
                      | (go_at_call 29
                         with_reducible refine hdc.mono ?_
                         rintro e wc ⟨rfl, hcC1, hcW1, hdr⟩)
                      | (go_at_call 30
                         with_reducible refine hdr.mono ?_
                         rintro e wd ⟨A, c, rfl, hc1, hC1, hK2, hcC2, hcW2, hCB⟩)
                      | (go_at_call 31
                         refine (same_calls (z := 3) hS2 (by omega) (by omega) rfl hC1 hc1 hCB hd0).mono ?_
                         rintro e we ⟨rfl, hd⟩
                         have hcC3 := (hd.cell (World.block_lt_of_cell? _ _ hcC2)).trans hcC2
                         have hcW3 := (hd.cell (World.block_lt_of_cell? _ _ hcW2)).trans hcW2
                         have hK3 := hK2.below hd))
                  all_goals (
                    go_wp2
                    go_roundw
                    case rel => exact ⟨4, _, _, by omega, by omega, rfl, hK3⟩
                    case measure => simp [Lib.intOf])
                · go_wp2_with (first
                    | (go_at_call 29
                       refine (hK.count_out (4) (by omega)).mono ?_
                       rintro e wc ⟨rfl, hK1⟩)
                    | (go_at_call 30
                       refine (hK1.row_out (4) (by omega)).mono ?_
                       rintro e wd ⟨A, c, rfl, hK2⟩))
                  go_roundw
                  case rel => exact ⟨5, _, _, by omega, by omega, rfl, hK2⟩
                  case measure => simp [Lib.intOf]
                · go_wp2
                  go_roundw
                  case rel => exact ⟨i + 1, t2, by omega, by simp, hK.js, hU2, hS2⟩
                  case measure =>
                    simp [Lib.intOf]
                    omega))
    · obtain rfl : i = l.length := by omega
      go_wp2
      go_ret
      exact ⟨rfl, hJ0.bel⟩
set_option maxHeartbeats 1000000 in
set_option maxRecDepth 1000000 in
theorem plays_calls (A0 : Option Addr) (c0 : Nat) (l : List S57) (w : World) (hld : LD w) (hr : Kd.C k57 w A0 l.length l) (hc : l.length ≤ c0) :
    Calls Tryd.prog 4 #[.slice A0 l.length c0] w fun e w' => e = .returned (.bool true) ∧ Below w.heap.size w w' := by
  by_cases h80 : (80 : Int) < (l.length : Int)
  · go_enter Tryd.func4, Tryd.ntmps4
    go_wp2_with (first
      | (go_at_call 20
         refine (tontinelaw9_known.calls 16 true rfl _ (known_f 0)).mono ?_
         rintro e w1 ⟨rfl, hb1⟩))
    go_ret
    exact ⟨rfl, hb1⟩
  · exact plays_main A0 c0 l w hld hr hc h80
end Go.Proofs.YtiejhnijfgdapaaDoor.P
