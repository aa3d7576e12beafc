/- The reference's Signal, over a state that is lent: the first who waits goes, or the count rises. Walked by hand. -/
import Derived.Test.YtiejhnijfgdapaaDoorObS
import Derived.WalkKit
import Derived.Deep.RegionHeldLaw
namespace Go.Proofs.YtiejhnijfgdapaaDoor.P
open Go Go.RowKit Go.Proofs.YtiejhnijfgdapaaDoorW.PrintWords Go.Proofs.YtiejhnijfgdapaaDoorW.PrintLast Go.Proofs.YtiejhnijfgdapaaDoorW.PrintMore
set_option linter.unusedVariables false
theorem q_cells {W : World} {g : Nat} {t : Nat} {v0 v1 v2 v3 v4 v5 v6 v7 : Value} (h : W.heap[g]? = some (.cells #[v0, v1, v2, v3, v4, v5, v6, v7] t (0, 0))) :
    W.cell? ⟨g, 0, none⟩ = some v0 ∧ W.cell? ⟨g, 1, none⟩ = some v1 ∧ W.cell? ⟨g, 2, none⟩ = some v2 ∧ W.cell? ⟨g, 3, none⟩ = some v3 ∧ W.cell? ⟨g, 4, none⟩ = some v4 ∧ W.cell? ⟨g, 5, none⟩ = some v5 ∧ W.cell? ⟨g, 6, none⟩ = some v6 ∧ W.cell? ⟨g, 7, none⟩ = some v7 :=
  ⟨(blk_cell h 0).trans rfl, (blk_cell h 1).trans rfl, (blk_cell h 2).trans rfl, (blk_cell h 3).trans rfl, (blk_cell h 4).trans rfl, (blk_cell h 5).trans rfl, (blk_cell h 6).trans rfl, (blk_cell h 7).trans rfl⟩
theorem ne_g {w : World} {base g : Nat} {ok : Nat → Prop} {u : Value} {l : List Int} {cells : Array Value} (h : Kd.Q (Kd.int .i64) 3 w base ok u l) (hg : w.heap[g]? = some (.cells cells 55 (0, 0))) : ¬ own u g := Kd.Q_ne h hg (by decide)
theorem far_g {u : Value} {g j : Nat} (n : ¬ own u g) : ∀ k, own u k → k ≠ (⟨g, j, none⟩ : Addr).block := fun k e e2 => n (by
  have h : k = g := e2
  rw [← h]
  exact e)
theorem q_tail {w : World} {base cp : Nat} {ok : Nat → Prop} {ad : Addr} {x : Int} {t : List Int} (h : Kd.Q (Kd.int .i64) 3 w base ok (.slice (some ad) (x :: t).length cp) (x :: t)) :
    (cp = 1 → Kd.Q (Kd.int .i64) 3 w base ok (.slice (some ad) t.length 0) t) ∧ (¬ cp = 1 → Kd.Q (Kd.int .i64) 3 w base ok (.slice (some ⟨ad.block, ad.off + 1, none⟩) t.length (cp - 1)) t) := by
  have rr := Kd.Q_drop h (k := 1) (by simp)
  refine ⟨fun hc => ?_, fun hc => ?_⟩
  · rw [if_pos hc, hc] at rr
    exact rr
  · rw [if_neg hc] at rr
    have e : (some ad).map (·.add (1 * (Kd.int .i64).sz)) = some ⟨ad.block, ad.off + 1, none⟩ := by
      show some (ad.add 1) = _
      simp [Addr.add]
    rw [e] at rr
    exact rr
def sigT5 : Bool × List (List Nat × List Nat) := (true, [([], []), ([], []), ([], []), ([], []), ([2], [2]), ([4], [4]), ([5, 3], [3, 5]), ([6], [6]), ([7], [7]), ([0], [0]), ([9], [9]), ([10, 1, 0, 1, 2, 3, 4, 5, 6, 7, 8], [1, 10]), ([11, 8, 0, 1, 2, 3, 4, 5, 6, 7, 8], [8, 11])])
def sigB5 : List Nat := [0, 0, 0, 0, 4, 20, 60, 124, 252, 1, 513, 2047, 4095]
theorem sig_tab5 : rtab .any (opsOf Tryd.f26 5) = sigT5 := by kernel_rfl
theorem sig_bits5 : waitsOk sigT5.2 sigB5 = true := by kernel_rfl
def sigT7 : Bool × List (List Nat × List Nat) := (true, [([], []), ([], []), ([], []), ([], []), ([2], [2]), ([4], [4]), ([5, 3], [3, 5]), ([6], [6]), ([7], [7]), ([8], [8]), ([0], [0]), ([10], [10]), ([11, 1, 0, 1, 2, 3, 4, 5, 6, 7, 8, 9], [1, 11]), ([12, 9, 0, 1, 2, 3, 4, 5, 6, 7, 8, 9], [9, 12])])
def sigB7 : List Nat := [0, 0, 0, 0, 4, 20, 60, 124, 252, 508, 1, 1025, 4095, 8191]
theorem sig_tab7 : rtab .any (opsOf Tryd.f26 7) = sigT7 := by kernel_rfl
theorem sig_bits7 : waitsOk sigT7.2 sigB7 = true := by kernel_rfl
set_option maxHeartbeats 1000000 in
set_option maxRecDepth 1000000 in
theorem QSt.sig_no {w0 w : World} {g : Nat} {S : Nat → Prop} {c0 c1 c2 c3 : Int} {l0 l1 l2 l3 : List Int} (h : QSt w0 w g S c0 l0 c1 l1 c2 l2 c3 l3) (n : Int) (hn : n < 0 ∨ 4 ≤ n) :
    Calls Tryd.prog 26 #[.pointer (some ⟨g, 0, none⟩), .int .i64 n] w fun e w' => e = .returned (.tuple #[.int .i64 0, .bool false, .int .i64 10]) ∧ (∃ S', QSt w0 w' g S' c0 l0 c1 l1 c2 l2 c3 l3 ∧ ∀ k, S' k → S k ∨ w.heap.size ≤ k) ∧ Kept w w' S := by
  have ho : tontineref8_obj.f n = some false := by
    unfold tontineref8_obj.f
    by_cases c : n ≥ 0
    · rw [if_pos c, decide_eq_false (by omega)]
    · rw [if_neg c]
  go_enter Tryd.func26, Tryd.ntmps26
  go_wp2_with (first
    | (go_at_call 38
       refine (tontineref8_obj.calls n false _ ho).mono ?_
       rintro e w1 ⟨rfl, hd⟩))
  go_ret3
  exact ⟨rfl, ⟨S, h.below hd.below, fun k hk => .inl hk⟩, Kept.of_below hd.below S⟩

set_option maxHeartbeats 4000000 in
set_option maxRecDepth 1000000 in
theorem QSt.sig0 {w0 w : World} {g : Nat} {S : Nat → Prop} {c0 c1 c2 c3 : Int} {l0 l1 l2 l3 : List Int} (h : QSt w0 w g S c0 l0 c1 l1 c2 l2 c3 l3) (x : Int) (t : List Int) (hl : l0 = x :: t) :
    Calls Tryd.prog 26 #[.pointer (some ⟨g, 0, none⟩), .int .i64 0] w fun e w' => e = .returned (.tuple #[.int .i64 x, .bool true, .int .i64 0]) ∧ (∃ S', QSt w0 w' g S' c0 t c1 l1 c2 l2 c3 l3 ∧ ∀ k, S' k → S k ∨ w.heap.size ≤ k) ∧ Kept w w' S := by
  subst hl
  obtain ⟨u0, u1, u2, u3, hg, hS, ⟨r0, r1, r2, r3⟩, ⟨a01, a02, a03, a12, a13, a23⟩, g0, hb⟩ := h
  obtain ⟨A, cp, rfl, hcp, hC⟩ := Kd.Q_reads r0
  obtain ⟨ad, rfl, hx⟩ := Kd.at_int hC 0 (by omega) (by simp)
  have hx' : w.cell? ad = some (.int .i64 x) := by simpa [rd, Addr.add] using hx
  have hlen : (0 : Int) < (((x :: t).length : Nat) : Int) := by simp <;> omega
  clear hx
  go_enter Tryd.func26, Tryd.ntmps26
  go_wp2_with (first
    | (go_at_call 38
       refine (tontineref8_obj.calls 0 true _ (by decide)).mono ?_
       rintro e w1 ⟨rfl, hd⟩
       have hg1 := (hd.below.block _ (blk_lt hg)).trans hg
       obtain ⟨f0, f1, f2, f3, f4, f5, f6, f7⟩ := q_cells hg1
       have hx1 := Goto.kc hd.below hx'
       have hfz := blk_frozen hg1 4))
  have n1 := ne_g r1 hg
  have n2 := ne_g r2 hg
  have n3 := ne_g r3 hg
  have n0 := ne_g r0 hg
  have rr := q_tail r0
  have HG := Goto.m0 hg1
  have HD := Goto.m0 hd
  clear hcp hC hx' hlen hx1 hg1 f0 f1 f2 f3 f4 f5 f6 f7
  have hle1 : (1 : Int) ≤ (t.length : Int) + 1 := by omega
  by_cases hc1 : cp = 1
  all_goals (
    replace HG := Goto.m0 (blk_drew HG.out)
    have hbd := below_drew (Below.refl w1.heap.size w1)
    refine start_ (n := 13) (S := fun w' => w'.cell? ⟨g, 4, none⟩ = some (.slice (some ad) (x :: t).length cp)) (ds := [12]) (.replicate 13 false) (by kernel_rfl) rfl rfl ((blk_cell HG.out 4).trans rfl) (fun hHeld => ?_)
    refine with_tabW sig_tab5 sig_bits5 (fun HT_ HW_ => ?_)
    generalize w1.drew = w2 at HG hbd hHeld ⊢
    refine Goto.pu 0 27 13 1 ?_
    refine Goto.pu 1 28 13 3 ?_
    refine Goto.pu 2 29 13 7 ?_
    refine Goto.pu 3 30 13 15 ?_
    refine Goto.pu 4 31 13 31 ?_
    refine Goto.pu 5 32 13 63 ?_
    refine Goto.pu 6 33 13 127 ?_
    refine Goto.pu 9 36 13 639 ?_
    refine Goto.pu 10 37 13 1663 ?_
    refine take_ (i := 7) (N := some 34) (v := ?_) (a' := ?_) (Goto.bs 13 1791) rfl rfl (take_ofW HT_.out HW_.out (by kernel_rfl)) (fun _ _ _ h => h) (Or.inl ⟨by rfl, ?_⟩) hHeld ?_ ?_
    rotate_left
    · rintro w' s0
      go_simp
      with_reducible rfl
    rotate_left
    · exact Goto.ap
    refine Goto.pu 8 35 13 2047 ?_
    refine Goto.pu 11 38 13 4095 ?_
    refine last_ (i := 12) (N := none) (Goto.bs 13 8191) rfl rfl (one_of HT_.out (by kernel_rfl)) (by decide) (fun K hK => ?_)
    have hs2 : w2.cell? ⟨g, 4, none⟩ = some (.slice (some ad) (x :: t).length cp) := (blk_cell HG.out 4).trans rfl
    have hf2 := Goto.bf HG 4
    refine skip_ (w1 := ?_) (by rfl) rfl ?_ ?_
    rotate_left
    · go_simp
      rfl
    refine hK.out _ _ ?_
    clear hK K
    refine done_ (done_of HT_.out (by kernel_rfl)) ?_
    try go_wp2
    go_ret3
    have hB2 := HD.out.below.trans (hbd.mono HD.out.below.size)
    first
      | exact ⟨rfl, ⟨S, ⟨_, u1, u2, u3, blk_set HG.out 4 _, hS, ⟨Kd.Q_far (p := ⟨g, 4, none⟩) (Kd.Q_below (rr.1 hc1) hB2) (far_g n0) _, Kd.Q_far (p := ⟨g, 4, none⟩) (Kd.Q_below r1 hB2) (far_g n1) _, Kd.Q_far (p := ⟨g, 4, none⟩) (Kd.Q_below r2 hB2) (far_g n2) _, Kd.Q_far (p := ⟨g, 4, none⟩) (Kd.Q_below r3 hB2) (far_g n3) _⟩, ⟨a01, a02, a03, a12, a13, a23⟩, g0, below_set (hb.trans (hB2.mono hb.size)) g0⟩, fun k hk => .inl hk⟩, Kept.setCell (Kept.of_below hB2 S) (p := ⟨g, 4, none⟩) (.inl ((hS g).2 (.inr rfl))) _⟩
      | exact ⟨rfl, ⟨S, ⟨_, u1, u2, u3, blk_set HG.out 4 _, hS, ⟨Kd.Q_far (p := ⟨g, 4, none⟩) (Kd.Q_below (rr.2 hc1) hB2) (far_g n0) _, Kd.Q_far (p := ⟨g, 4, none⟩) (Kd.Q_below r1 hB2) (far_g n1) _, Kd.Q_far (p := ⟨g, 4, none⟩) (Kd.Q_below r2 hB2) (far_g n2) _, Kd.Q_far (p := ⟨g, 4, none⟩) (Kd.Q_below r3 hB2) (far_g n3) _⟩, ⟨a01, a02, a03, a12, a13, a23⟩, g0, below_set (hb.trans (hB2.mono hb.size)) g0⟩, fun k hk => .inl hk⟩, Kept.setCell (Kept.of_below hB2 S) (p := ⟨g, 4, none⟩) (.inl ((hS g).2 (.inr rfl))) _⟩)

set_option maxHeartbeats 4000000 in
set_option maxRecDepth 1000000 in
theorem QSt.sige0 {w0 w : World} {g : Nat} {S : Nat → Prop} {c0 c1 c2 c3 : Int} {l0 l1 l2 l3 : List Int} (h : QSt w0 w g S c0 l0 c1 l1 c2 l2 c3 l3) (hl : l0 = []) :
    Calls Tryd.prog 26 #[.pointer (some ⟨g, 0, none⟩), .int .i64 0] w fun e w' => e = .returned (.tuple #[.int .i64 0, .bool false, .int .i64 0]) ∧ (∃ S', QSt w0 w' g S' (min (wrap64 (c0 + 1)) 255) l0 c1 l1 c2 l2 c3 l3 ∧ ∀ k, S' k → S k ∨ w.heap.size ≤ k) ∧ Kept w w' S := by
  subst hl
  obtain ⟨u0, u1, u2, u3, hg, hS, ⟨r0, r1, r2, r3⟩, ⟨a01, a02, a03, a12, a13, a23⟩, g0, hb⟩ := h
  obtain ⟨A, cp, rfl, hcp, hC⟩ := Kd.Q_reads r0
  clear hcp hC
  go_enter Tryd.func26, Tryd.ntmps26
  go_wp2_with (first
    | (go_at_call 38
       refine (tontineref8_obj.calls 0 true _ (by decide)).mono ?_
       rintro e w1 ⟨rfl, hd⟩
       have hg1 := (hd.below.block _ (blk_lt hg)).trans hg
       obtain ⟨f0, f1, f2, f3, f4, f5, f6, f7⟩ := q_cells hg1))
  have n1 := ne_g r1 hg
  have n2 := ne_g r2 hg
  have n3 := ne_g r3 hg
  have n0 := ne_g r0 hg
  have HG := Goto.m0 hg1
  have HD := Goto.m0 hd
  clear hg1 f0 f1 f2 f3 f4 f5 f6 f7
  replace HG := Goto.m0 (blk_drew HG.out)
  have hbd := below_drew (Below.refl w1.heap.size w1)
  refine start_ (n := 14) (S := fun w' => w'.cell? ⟨g, 0, none⟩ = some (.int .i64 c0)) (ds := [13]) (.replicate 14 false) (by kernel_rfl) rfl rfl ((blk_cell HG.out 0).trans rfl) (fun hHeld => ?_)
  refine with_tabW sig_tab7 sig_bits7 (fun HT_ HW_ => ?_)
  generalize w1.drew = w2 at HG hbd hHeld ⊢
  refine Goto.pu 0 40 14 1 ?_
  refine Goto.pu 1 41 14 3 ?_
  refine Goto.pu 2 42 14 7 ?_
  refine Goto.pu 3 43 14 15 ?_
  refine Goto.pu 4 44 14 31 ?_
  refine Goto.pu 5 45 14 63 ?_
  refine Goto.pu 6 46 14 127 ?_
  refine Goto.pu 10 50 14 1151 ?_
  refine Goto.pu 11 51 14 3199 ?_
  refine take_ (i := 7) (N := some 47) (v := ?_) (a' := ?_) (Goto.bs 14 3327) rfl rfl (take_ofW HT_.out HW_.out (by kernel_rfl)) (fun _ _ _ h => h) (Or.inl ⟨by rfl, ?_⟩) hHeld ?_ ?_
  rotate_left
  · rintro w' s0
    go_simp
    with_reducible rfl
  rotate_left
  · exact Goto.ap
  refine Goto.pu 8 48 14 3583 ?_
  refine Goto.pu 9 49 14 4095 ?_
  refine Goto.pu 12 52 14 8191 ?_
  refine last_ (i := 13) (N := none) (Goto.bs 14 16383) rfl rfl (one_of HT_.out (by kernel_rfl)) (by decide) (fun K hK => ?_)
  have hs2 : w2.cell? ⟨g, 0, none⟩ = some (.int .i64 c0) := (blk_cell HG.out 0).trans rfl
  have hf2 := Goto.bf HG 0
  refine skip_ (w1 := ?_) (by rfl) rfl ?_ ?_
  rotate_left
  · go_simp
    rfl
  refine hK.out _ _ ?_
  clear hK K
  refine done_ (done_of HT_.out (by kernel_rfl)) ?_
  try go_wp2
  go_ret3
  have hB2 := HD.out.below.trans (hbd.mono HD.out.below.size)
  exact ⟨rfl, ⟨S, ⟨_, u1, u2, u3, blk_set HG.out 0 _, hS, ⟨Kd.Q_far (p := ⟨g, 0, none⟩) (Kd.Q_below r0 hB2) (far_g n0) _, Kd.Q_far (p := ⟨g, 0, none⟩) (Kd.Q_below r1 hB2) (far_g n1) _, Kd.Q_far (p := ⟨g, 0, none⟩) (Kd.Q_below r2 hB2) (far_g n2) _, Kd.Q_far (p := ⟨g, 0, none⟩) (Kd.Q_below r3 hB2) (far_g n3) _⟩, ⟨a01, a02, a03, a12, a13, a23⟩, g0, below_set (hb.trans (hB2.mono hb.size)) g0⟩, fun k hk => .inl hk⟩, Kept.setCell (Kept.of_below hB2 S) (p := ⟨g, 0, none⟩) (.inl ((hS g).2 (.inr rfl))) _⟩

set_option maxHeartbeats 4000000 in
set_option maxRecDepth 1000000 in
theorem QSt.sig1 {w0 w : World} {g : Nat} {S : Nat → Prop} {c0 c1 c2 c3 : Int} {l0 l1 l2 l3 : List Int} (h : QSt w0 w g S c0 l0 c1 l1 c2 l2 c3 l3) (x : Int) (t : List Int) (hl : l1 = x :: t) :
    Calls Tryd.prog 26 #[.pointer (some ⟨g, 0, none⟩), .int .i64 1] w fun e w' => e = .returned (.tuple #[.int .i64 x, .bool true, .int .i64 0]) ∧ (∃ S', QSt w0 w' g S' c0 l0 c1 t c2 l2 c3 l3 ∧ ∀ k, S' k → S k ∨ w.heap.size ≤ k) ∧ Kept w w' S := by
  subst hl
  obtain ⟨u0, u1, u2, u3, hg, hS, ⟨r0, r1, r2, r3⟩, ⟨a01, a02, a03, a12, a13, a23⟩, g0, hb⟩ := h
  obtain ⟨A, cp, rfl, hcp, hC⟩ := Kd.Q_reads r1
  obtain ⟨ad, rfl, hx⟩ := Kd.at_int hC 0 (by omega) (by simp)
  have hx' : w.cell? ad = some (.int .i64 x) := by simpa [rd, Addr.add] using hx
  have hlen : (0 : Int) < (((x :: t).length : Nat) : Int) := by simp <;> omega
  clear hx
  go_enter Tryd.func26, Tryd.ntmps26
  go_wp2_with (first
    | (go_at_call 38
       refine (tontineref8_obj.calls 1 true _ (by decide)).mono ?_
       rintro e w1 ⟨rfl, hd⟩
       have hg1 := (hd.below.block _ (blk_lt hg)).trans hg
       obtain ⟨f0, f1, f2, f3, f4, f5, f6, f7⟩ := q_cells hg1
       have hx1 := Goto.kc hd.below hx'
       have hfz := blk_frozen hg1 5))
  have n0 := ne_g r0 hg
  have n2 := ne_g r2 hg
  have n3 := ne_g r3 hg
  have n1 := ne_g r1 hg
  have rr := q_tail r1
  have HG := Goto.m0 hg1
  have HD := Goto.m0 hd
  clear hcp hC hx' hlen hx1 hg1 f0 f1 f2 f3 f4 f5 f6 f7
  have hle1 : (1 : Int) ≤ (t.length : Int) + 1 := by omega
  by_cases hc1 : cp = 1
  all_goals (
    replace HG := Goto.m0 (blk_drew HG.out)
    have hbd := below_drew (Below.refl w1.heap.size w1)
    refine start_ (n := 13) (S := fun w' => w'.cell? ⟨g, 5, none⟩ = some (.slice (some ad) (x :: t).length cp)) (ds := [12]) (.replicate 13 false) (by kernel_rfl) rfl rfl ((blk_cell HG.out 5).trans rfl) (fun hHeld => ?_)
    refine with_tabW sig_tab5 sig_bits5 (fun HT_ HW_ => ?_)
    generalize w1.drew = w2 at HG hbd hHeld ⊢
    refine Goto.pu 0 27 13 1 ?_
    refine Goto.pu 1 28 13 3 ?_
    refine Goto.pu 2 29 13 7 ?_
    refine Goto.pu 3 30 13 15 ?_
    refine Goto.pu 4 31 13 31 ?_
    refine Goto.pu 5 32 13 63 ?_
    refine Goto.pu 6 33 13 127 ?_
    refine Goto.pu 9 36 13 639 ?_
    refine Goto.pu 10 37 13 1663 ?_
    refine take_ (i := 7) (N := some 34) (v := ?_) (a' := ?_) (Goto.bs 13 1791) rfl rfl (take_ofW HT_.out HW_.out (by kernel_rfl)) (fun _ _ _ h => h) (Or.inl ⟨by rfl, ?_⟩) hHeld ?_ ?_
    rotate_left
    · rintro w' s0
      go_simp
      with_reducible rfl
    rotate_left
    · exact Goto.ap
    refine Goto.pu 8 35 13 2047 ?_
    refine Goto.pu 11 38 13 4095 ?_
    refine last_ (i := 12) (N := none) (Goto.bs 13 8191) rfl rfl (one_of HT_.out (by kernel_rfl)) (by decide) (fun K hK => ?_)
    have hs2 : w2.cell? ⟨g, 5, none⟩ = some (.slice (some ad) (x :: t).length cp) := (blk_cell HG.out 5).trans rfl
    have hf2 := Goto.bf HG 5
    refine skip_ (w1 := ?_) (by rfl) rfl ?_ ?_
    rotate_left
    · go_simp
      rfl
    refine hK.out _ _ ?_
    clear hK K
    refine done_ (done_of HT_.out (by kernel_rfl)) ?_
    try go_wp2
    go_ret3
    have hB2 := HD.out.below.trans (hbd.mono HD.out.below.size)
    first
      | exact ⟨rfl, ⟨S, ⟨u0, _, u2, u3, blk_set HG.out 5 _, hS, ⟨Kd.Q_far (p := ⟨g, 5, none⟩) (Kd.Q_below r0 hB2) (far_g n0) _, Kd.Q_far (p := ⟨g, 5, none⟩) (Kd.Q_below (rr.1 hc1) hB2) (far_g n1) _, Kd.Q_far (p := ⟨g, 5, none⟩) (Kd.Q_below r2 hB2) (far_g n2) _, Kd.Q_far (p := ⟨g, 5, none⟩) (Kd.Q_below r3 hB2) (far_g n3) _⟩, ⟨a01, a02, a03, a12, a13, a23⟩, g0, below_set (hb.trans (hB2.mono hb.size)) g0⟩, fun k hk => .inl hk⟩, Kept.setCell (Kept.of_below hB2 S) (p := ⟨g, 5, none⟩) (.inl ((hS g).2 (.inr rfl))) _⟩
      | exact ⟨rfl, ⟨S, ⟨u0, _, u2, u3, blk_set HG.out 5 _, hS, ⟨Kd.Q_far (p := ⟨g, 5, none⟩) (Kd.Q_below r0 hB2) (far_g n0) _, Kd.Q_far (p := ⟨g, 5, none⟩) (Kd.Q_below (rr.2 hc1) hB2) (far_g n1) _, Kd.Q_far (p := ⟨g, 5, none⟩) (Kd.Q_below r2 hB2) (far_g n2) _, Kd.Q_far (p := ⟨g, 5, none⟩) (Kd.Q_below r3 hB2) (far_g n3) _⟩, ⟨a01, a02, a03, a12, a13, a23⟩, g0, below_set (hb.trans (hB2.mono hb.size)) g0⟩, fun k hk => .inl hk⟩, Kept.setCell (Kept.of_below hB2 S) (p := ⟨g, 5, none⟩) (.inl ((hS g).2 (.inr rfl))) _⟩)

set_option maxHeartbeats 4000000 in
set_option maxRecDepth 1000000 in
theorem QSt.sige1 {w0 w : World} {g : Nat} {S : Nat → Prop} {c0 c1 c2 c3 : Int} {l0 l1 l2 l3 : List Int} (h : QSt w0 w g S c0 l0 c1 l1 c2 l2 c3 l3) (hl : l1 = []) :
    Calls Tryd.prog 26 #[.pointer (some ⟨g, 0, none⟩), .int .i64 1] w fun e w' => e = .returned (.tuple #[.int .i64 0, .bool false, .int .i64 0]) ∧ (∃ S', QSt w0 w' g S' c0 l0 (min (wrap64 (c1 + 1)) 255) l1 c2 l2 c3 l3 ∧ ∀ k, S' k → S k ∨ w.heap.size ≤ k) ∧ Kept w w' S := by
  subst hl
  obtain ⟨u0, u1, u2, u3, hg, hS, ⟨r0, r1, r2, r3⟩, ⟨a01, a02, a03, a12, a13, a23⟩, g0, hb⟩ := h
  obtain ⟨A, cp, rfl, hcp, hC⟩ := Kd.Q_reads r1
  clear hcp hC
  go_enter Tryd.func26, Tryd.ntmps26
  go_wp2_with (first
    | (go_at_call 38
       refine (tontineref8_obj.calls 1 true _ (by decide)).mono ?_
       rintro e w1 ⟨rfl, hd⟩
       have hg1 := (hd.below.block _ (blk_lt hg)).trans hg
       obtain ⟨f0, f1, f2, f3, f4, f5, f6, f7⟩ := q_cells hg1))
  have n0 := ne_g r0 hg
  have n2 := ne_g r2 hg
  have n3 := ne_g r3 hg
  have n1 := ne_g r1 hg
  have HG := Goto.m0 hg1
  have HD := Goto.m0 hd
  clear hg1 f0 f1 f2 f3 f4 f5 f6 f7
  replace HG := Goto.m0 (blk_drew HG.out)
  have hbd := below_drew (Below.refl w1.heap.size w1)
  refine start_ (n := 14) (S := fun w' => w'.cell? ⟨g, 1, none⟩ = some (.int .i64 c1)) (ds := [13]) (.replicate 14 false) (by kernel_rfl) rfl rfl ((blk_cell HG.out 1).trans rfl) (fun hHeld => ?_)
  refine with_tabW sig_tab7 sig_bits7 (fun HT_ HW_ => ?_)
  generalize w1.drew = w2 at HG hbd hHeld ⊢
  refine Goto.pu 0 40 14 1 ?_
  refine Goto.pu 1 41 14 3 ?_
  refine Goto.pu 2 42 14 7 ?_
  refine Goto.pu 3 43 14 15 ?_
  refine Goto.pu 4 44 14 31 ?_
  refine Goto.pu 5 45 14 63 ?_
  refine Goto.pu 6 46 14 127 ?_
  refine Goto.pu 10 50 14 1151 ?_
  refine Goto.pu 11 51 14 3199 ?_
  refine take_ (i := 7) (N := some 47) (v := ?_) (a' := ?_) (Goto.bs 14 3327) rfl rfl (take_ofW HT_.out HW_.out (by kernel_rfl)) (fun _ _ _ h => h) (Or.inl ⟨by rfl, ?_⟩) hHeld ?_ ?_
  rotate_left
  · rintro w' s0
    go_simp
    with_reducible rfl
  rotate_left
  · exact Goto.ap
  refine Goto.pu 8 48 14 3583 ?_
  refine Goto.pu 9 49 14 4095 ?_
  refine Goto.pu 12 52 14 8191 ?_
  refine last_ (i := 13) (N := none) (Goto.bs 14 16383) rfl rfl (one_of HT_.out (by kernel_rfl)) (by decide) (fun K hK => ?_)
  have hs2 : w2.cell? ⟨g, 1, none⟩ = some (.int .i64 c1) := (blk_cell HG.out 1).trans rfl
  have hf2 := Goto.bf HG 1
  refine skip_ (w1 := ?_) (by rfl) rfl ?_ ?_
  rotate_left
  · go_simp
    rfl
  refine hK.out _ _ ?_
  clear hK K
  refine done_ (done_of HT_.out (by kernel_rfl)) ?_
  try go_wp2
  go_ret3
  have hB2 := HD.out.below.trans (hbd.mono HD.out.below.size)
  exact ⟨rfl, ⟨S, ⟨u0, _, u2, u3, blk_set HG.out 1 _, hS, ⟨Kd.Q_far (p := ⟨g, 1, none⟩) (Kd.Q_below r0 hB2) (far_g n0) _, Kd.Q_far (p := ⟨g, 1, none⟩) (Kd.Q_below r1 hB2) (far_g n1) _, Kd.Q_far (p := ⟨g, 1, none⟩) (Kd.Q_below r2 hB2) (far_g n2) _, Kd.Q_far (p := ⟨g, 1, none⟩) (Kd.Q_below r3 hB2) (far_g n3) _⟩, ⟨a01, a02, a03, a12, a13, a23⟩, g0, below_set (hb.trans (hB2.mono hb.size)) g0⟩, fun k hk => .inl hk⟩, Kept.setCell (Kept.of_below hB2 S) (p := ⟨g, 1, none⟩) (.inl ((hS g).2 (.inr rfl))) _⟩

set_option maxHeartbeats 4000000 in
set_option maxRecDepth 1000000 in
theorem QSt.sig2 {w0 w : World} {g : Nat} {S : Nat → Prop} {c0 c1 c2 c3 : Int} {l0 l1 l2 l3 : List Int} (h : QSt w0 w g S c0 l0 c1 l1 c2 l2 c3 l3) (x : Int) (t : List Int) (hl : l2 = x :: t) :
    Calls Tryd.prog 26 #[.pointer (some ⟨g, 0, none⟩), .int .i64 2] w fun e w' => e = .returned (.tuple #[.int .i64 x, .bool true, .int .i64 0]) ∧ (∃ S', QSt w0 w' g S' c0 l0 c1 l1 c2 t c3 l3 ∧ ∀ k, S' k → S k ∨ w.heap.size ≤ k) ∧ Kept w w' S := by
  subst hl
  obtain ⟨u0, u1, u2, u3, hg, hS, ⟨r0, r1, r2, r3⟩, ⟨a01, a02, a03, a12, a13, a23⟩, g0, hb⟩ := h
  obtain ⟨A, cp, rfl, hcp, hC⟩ := Kd.Q_reads r2
  obtain ⟨ad, rfl, hx⟩ := Kd.at_int hC 0 (by omega) (by simp)
  have hx' : w.cell? ad = some (.int .i64 x) := by simpa [rd, Addr.add] using hx
  have hlen : (0 : Int) < (((x :: t).length : Nat) : Int) := by simp <;> omega
  clear hx
  go_enter Tryd.func26, Tryd.ntmps26
  go_wp2_with (first
    | (go_at_call 38
       refine (tontineref8_obj.calls 2 true _ (by decide)).mono ?_
       rintro e w1 ⟨rfl, hd⟩
       have hg1 := (hd.below.block _ (blk_lt hg)).trans hg
       obtain ⟨f0, f1, f2, f3, f4, f5, f6, f7⟩ := q_cells hg1
       have hx1 := Goto.kc hd.below hx'
       have hfz := blk_frozen hg1 6))
  have n0 := ne_g r0 hg
  have n1 := ne_g r1 hg
  have n3 := ne_g r3 hg
  have n2 := ne_g r2 hg
  have rr := q_tail r2
  have HG := Goto.m0 hg1
  have HD := Goto.m0 hd
  clear hcp hC hx' hlen hx1 hg1 f0 f1 f2 f3 f4 f5 f6 f7
  have hle1 : (1 : Int) ≤ (t.length : Int) + 1 := by omega
  by_cases hc1 : cp = 1
  all_goals (
    replace HG := Goto.m0 (blk_drew HG.out)
    have hbd := below_drew (Below.refl w1.heap.size w1)
    refine start_ (n := 13) (S := fun w' => w'.cell? ⟨g, 6, none⟩ = some (.slice (some ad) (x :: t).length cp)) (ds := [12]) (.replicate 13 false) (by kernel_rfl) rfl rfl ((blk_cell HG.out 6).trans rfl) (fun hHeld => ?_)
    refine with_tabW sig_tab5 sig_bits5 (fun HT_ HW_ => ?_)
    generalize w1.drew = w2 at HG hbd hHeld ⊢
    refine Goto.pu 0 27 13 1 ?_
    refine Goto.pu 1 28 13 3 ?_
    refine Goto.pu 2 29 13 7 ?_
    refine Goto.pu 3 30 13 15 ?_
    refine Goto.pu 4 31 13 31 ?_
    refine Goto.pu 5 32 13 63 ?_
    refine Goto.pu 6 33 13 127 ?_
    refine Goto.pu 9 36 13 639 ?_
    refine Goto.pu 10 37 13 1663 ?_
    refine take_ (i := 7) (N := some 34) (v := ?_) (a' := ?_) (Goto.bs 13 1791) rfl rfl (take_ofW HT_.out HW_.out (by kernel_rfl)) (fun _ _ _ h => h) (Or.inl ⟨by rfl, ?_⟩) hHeld ?_ ?_
    rotate_left
    · rintro w' s0
      go_simp
      with_reducible rfl
    rotate_left
    · exact Goto.ap
    refine Goto.pu 8 35 13 2047 ?_
    refine Goto.pu 11 38 13 4095 ?_
    refine last_ (i := 12) (N := none) (Goto.bs 13 8191) rfl rfl (one_of HT_.out (by kernel_rfl)) (by decide) (fun K hK => ?_)
    have hs2 : w2.cell? ⟨g, 6, none⟩ = some (.slice (some ad) (x :: t).length cp) := (blk_cell HG.out 6).trans rfl
    have hf2 := Goto.bf HG 6
    refine skip_ (w1 := ?_) (by rfl) rfl ?_ ?_
    rotate_left
    · go_simp
      rfl
    refine hK.out _ _ ?_
    clear hK K
    refine done_ (done_of HT_.out (by kernel_rfl)) ?_
    try go_wp2
    go_ret3
    have hB2 := HD.out.below.trans (hbd.mono HD.out.below.size)
    first
      | exact ⟨rfl, ⟨S, ⟨u0, u1, _, u3, blk_set HG.out 6 _, hS, ⟨Kd.Q_far (p := ⟨g, 6, none⟩) (Kd.Q_below r0 hB2) (far_g n0) _, Kd.Q_far (p := ⟨g, 6, none⟩) (Kd.Q_below r1 hB2) (far_g n1) _, Kd.Q_far (p := ⟨g, 6, none⟩) (Kd.Q_below (rr.1 hc1) hB2) (far_g n2) _, Kd.Q_far (p := ⟨g, 6, none⟩) (Kd.Q_below r3 hB2) (far_g n3) _⟩, ⟨a01, a02, a03, a12, a13, a23⟩, g0, below_set (hb.trans (hB2.mono hb.size)) g0⟩, fun k hk => .inl hk⟩, Kept.setCell (Kept.of_below hB2 S) (p := ⟨g, 6, none⟩) (.inl ((hS g).2 (.inr rfl))) _⟩
      | exact ⟨rfl, ⟨S, ⟨u0, u1, _, u3, blk_set HG.out 6 _, hS, ⟨Kd.Q_far (p := ⟨g, 6, none⟩) (Kd.Q_below r0 hB2) (far_g n0) _, Kd.Q_far (p := ⟨g, 6, none⟩) (Kd.Q_below r1 hB2) (far_g n1) _, Kd.Q_far (p := ⟨g, 6, none⟩) (Kd.Q_below (rr.2 hc1) hB2) (far_g n2) _, Kd.Q_far (p := ⟨g, 6, none⟩) (Kd.Q_below r3 hB2) (far_g n3) _⟩, ⟨a01, a02, a03, a12, a13, a23⟩, g0, below_set (hb.trans (hB2.mono hb.size)) g0⟩, fun k hk => .inl hk⟩, Kept.setCell (Kept.of_below hB2 S) (p := ⟨g, 6, none⟩) (.inl ((hS g).2 (.inr rfl))) _⟩)

set_option maxHeartbeats 4000000 in
set_option maxRecDepth 1000000 in
theorem QSt.sige2 {w0 w : World} {g : Nat} {S : Nat → Prop} {c0 c1 c2 c3 : Int} {l0 l1 l2 l3 : List Int} (h : QSt w0 w g S c0 l0 c1 l1 c2 l2 c3 l3) (hl : l2 = []) :
    Calls Tryd.prog 26 #[.pointer (some ⟨g, 0, none⟩), .int .i64 2] w fun e w' => e = .returned (.tuple #[.int .i64 0, .bool false, .int .i64 0]) ∧ (∃ S', QSt w0 w' g S' c0 l0 c1 l1 (min (wrap64 (c2 + 1)) 255) l2 c3 l3 ∧ ∀ k, S' k → S k ∨ w.heap.size ≤ k) ∧ Kept w w' S := by
  subst hl
  obtain ⟨u0, u1, u2, u3, hg, hS, ⟨r0, r1, r2, r3⟩, ⟨a01, a02, a03, a12, a13, a23⟩, g0, hb⟩ := h
  obtain ⟨A, cp, rfl, hcp, hC⟩ := Kd.Q_reads r2
  clear hcp hC
  go_enter Tryd.func26, Tryd.ntmps26
  go_wp2_with (first
    | (go_at_call 38
       refine (tontineref8_obj.calls 2 true _ (by decide)).mono ?_
       rintro e w1 ⟨rfl, hd⟩
       have hg1 := (hd.below.block _ (blk_lt hg)).trans hg
       obtain ⟨f0, f1, f2, f3, f4, f5, f6, f7⟩ := q_cells hg1))
  have n0 := ne_g r0 hg
  have n1 := ne_g r1 hg
  have n3 := ne_g r3 hg
  have n2 := ne_g r2 hg
  have HG := Goto.m0 hg1
  have HD := Goto.m0 hd
  clear hg1 f0 f1 f2 f3 f4 f5 f6 f7
  replace HG := Goto.m0 (blk_drew HG.out)
  have hbd := below_drew (Below.refl w1.heap.size w1)
  refine start_ (n := 14) (S := fun w' => w'.cell? ⟨g, 2, none⟩ = some (.int .i64 c2)) (ds := [13]) (.replicate 14 false) (by kernel_rfl) rfl rfl ((blk_cell HG.out 2).trans rfl) (fun hHeld => ?_)
  refine with_tabW sig_tab7 sig_bits7 (fun HT_ HW_ => ?_)
  generalize w1.drew = w2 at HG hbd hHeld ⊢
  refine Goto.pu 0 40 14 1 ?_
  refine Goto.pu 1 41 14 3 ?_
  refine Goto.pu 2 42 14 7 ?_
  refine Goto.pu 3 43 14 15 ?_
  refine Goto.pu 4 44 14 31 ?_
  refine Goto.pu 5 45 14 63 ?_
  refine Goto.pu 6 46 14 127 ?_
  refine Goto.pu 10 50 14 1151 ?_
  refine Goto.pu 11 51 14 3199 ?_
  refine take_ (i := 7) (N := some 47) (v := ?_) (a' := ?_) (Goto.bs 14 3327) rfl rfl (take_ofW HT_.out HW_.out (by kernel_rfl)) (fun _ _ _ h => h) (Or.inl ⟨by rfl, ?_⟩) hHeld ?_ ?_
  rotate_left
  · rintro w' s0
    go_simp
    with_reducible rfl
  rotate_left
  · exact Goto.ap
  refine Goto.pu 8 48 14 3583 ?_
  refine Goto.pu 9 49 14 4095 ?_
  refine Goto.pu 12 52 14 8191 ?_
  refine last_ (i := 13) (N := none) (Goto.bs 14 16383) rfl rfl (one_of HT_.out (by kernel_rfl)) (by decide) (fun K hK => ?_)
  have hs2 : w2.cell? ⟨g, 2, none⟩ = some (.int .i64 c2) := (blk_cell HG.out 2).trans rfl
  have hf2 := Goto.bf HG 2
  refine skip_ (w1 := ?_) (by rfl) rfl ?_ ?_
  rotate_left
  · go_simp
    rfl
  refine hK.out _ _ ?_
  clear hK K
  refine done_ (done_of HT_.out (by kernel_rfl)) ?_
  try go_wp2
  go_ret3
  have hB2 := HD.out.below.trans (hbd.mono HD.out.below.size)
  exact ⟨rfl, ⟨S, ⟨u0, u1, _, u3, blk_set HG.out 2 _, hS, ⟨Kd.Q_far (p := ⟨g, 2, none⟩) (Kd.Q_below r0 hB2) (far_g n0) _, Kd.Q_far (p := ⟨g, 2, none⟩) (Kd.Q_below r1 hB2) (far_g n1) _, Kd.Q_far (p := ⟨g, 2, none⟩) (Kd.Q_below r2 hB2) (far_g n2) _, Kd.Q_far (p := ⟨g, 2, none⟩) (Kd.Q_below r3 hB2) (far_g n3) _⟩, ⟨a01, a02, a03, a12, a13, a23⟩, g0, below_set (hb.trans (hB2.mono hb.size)) g0⟩, fun k hk => .inl hk⟩, Kept.setCell (Kept.of_below hB2 S) (p := ⟨g, 2, none⟩) (.inl ((hS g).2 (.inr rfl))) _⟩

set_option maxHeartbeats 4000000 in
set_option maxRecDepth 1000000 in
theorem QSt.sig3 {w0 w : World} {g : Nat} {S : Nat → Prop} {c0 c1 c2 c3 : Int} {l0 l1 l2 l3 : List Int} (h : QSt w0 w g S c0 l0 c1 l1 c2 l2 c3 l3) (x : Int) (t : List Int) (hl : l3 = x :: t) :
    Calls Tryd.prog 26 #[.pointer (some ⟨g, 0, none⟩), .int .i64 3] w fun e w' => e = .returned (.tuple #[.int .i64 x, .bool true, .int .i64 0]) ∧ (∃ S', QSt w0 w' g S' c0 l0 c1 l1 c2 l2 c3 t ∧ ∀ k, S' k → S k ∨ w.heap.size ≤ k) ∧ Kept w w' S := by
  subst hl
  obtain ⟨u0, u1, u2, u3, hg, hS, ⟨r0, r1, r2, r3⟩, ⟨a01, a02, a03, a12, a13, a23⟩, g0, hb⟩ := h
  obtain ⟨A, cp, rfl, hcp, hC⟩ := Kd.Q_reads r3
  obtain ⟨ad, rfl, hx⟩ := Kd.at_int hC 0 (by omega) (by simp)
  have hx' : w.cell? ad = some (.int .i64 x) := by simpa [rd, Addr.add] using hx
  have hlen : (0 : Int) < (((x :: t).length : Nat) : Int) := by simp <;> omega
  clear hx
  go_enter Tryd.func26, Tryd.ntmps26
  go_wp2_with (first
    | (go_at_call 38
       refine (tontineref8_obj.calls 3 true _ (by decide)).mono ?_
       rintro e w1 ⟨rfl, hd⟩
       have hg1 := (hd.below.block _ (blk_lt hg)).trans hg
       obtain ⟨f0, f1, f2, f3, f4, f5, f6, f7⟩ := q_cells hg1
       have hx1 := Goto.kc hd.below hx'
       have hfz := blk_frozen hg1 7))
  have n0 := ne_g r0 hg
  have n1 := ne_g r1 hg
  have n2 := ne_g r2 hg
  have n3 := ne_g r3 hg
  have rr := q_tail r3
  have HG := Goto.m0 hg1
  have HD := Goto.m0 hd
  clear hcp hC hx' hlen hx1 hg1 f0 f1 f2 f3 f4 f5 f6 f7
  have hle1 : (1 : Int) ≤ (t.length : Int) + 1 := by omega
  by_cases hc1 : cp = 1
  all_goals (
    replace HG := Goto.m0 (blk_drew HG.out)
    have hbd := below_drew (Below.refl w1.heap.size w1)
    refine start_ (n := 13) (S := fun w' => w'.cell? ⟨g, 7, none⟩ = some (.slice (some ad) (x :: t).length cp)) (ds := [12]) (.replicate 13 false) (by kernel_rfl) rfl rfl ((blk_cell HG.out 7).trans rfl) (fun hHeld => ?_)
    refine with_tabW sig_tab5 sig_bits5 (fun HT_ HW_ => ?_)
    generalize w1.drew = w2 at HG hbd hHeld ⊢
    refine Goto.pu 0 27 13 1 ?_
    refine Goto.pu 1 28 13 3 ?_
    refine Goto.pu 2 29 13 7 ?_
    refine Goto.pu 3 30 13 15 ?_
    refine Goto.pu 4 31 13 31 ?_
    refine Goto.pu 5 32 13 63 ?_
    refine Goto.pu 6 33 13 127 ?_
    refine Goto.pu 9 36 13 639 ?_
    refine Goto.pu 10 37 13 1663 ?_
    refine take_ (i := 7) (N := some 34) (v := ?_) (a' := ?_) (Goto.bs 13 1791) rfl rfl (take_ofW HT_.out HW_.out (by kernel_rfl)) (fun _ _ _ h => h) (Or.inl ⟨by rfl, ?_⟩) hHeld ?_ ?_
    rotate_left
    · rintro w' s0
      go_simp
      with_reducible rfl
    rotate_left
    · exact Goto.ap
    refine Goto.pu 8 35 13 2047 ?_
    refine Goto.pu 11 38 13 4095 ?_
    refine last_ (i := 12) (N := none) (Goto.bs 13 8191) rfl rfl (one_of HT_.out (by kernel_rfl)) (by decide) (fun K hK => ?_)
    have hs2 : w2.cell? ⟨g, 7, none⟩ = some (.slice (some ad) (x :: t).length cp) := (blk_cell HG.out 7).trans rfl
    have hf2 := Goto.bf HG 7
    refine skip_ (w1 := ?_) (by rfl) rfl ?_ ?_
    rotate_left
    · go_simp
      rfl
    refine hK.out _ _ ?_
    clear hK K
    refine done_ (done_of HT_.out (by kernel_rfl)) ?_
    try go_wp2
    go_ret3
    have hB2 := HD.out.below.trans (hbd.mono HD.out.below.size)
    first
      | exact ⟨rfl, ⟨S, ⟨u0, u1, u2, _, blk_set HG.out 7 _, hS, ⟨Kd.Q_far (p := ⟨g, 7, none⟩) (Kd.Q_below r0 hB2) (far_g n0) _, Kd.Q_far (p := ⟨g, 7, none⟩) (Kd.Q_below r1 hB2) (far_g n1) _, Kd.Q_far (p := ⟨g, 7, none⟩) (Kd.Q_below r2 hB2) (far_g n2) _, Kd.Q_far (p := ⟨g, 7, none⟩) (Kd.Q_below (rr.1 hc1) hB2) (far_g n3) _⟩, ⟨a01, a02, a03, a12, a13, a23⟩, g0, below_set (hb.trans (hB2.mono hb.size)) g0⟩, fun k hk => .inl hk⟩, Kept.setCell (Kept.of_below hB2 S) (p := ⟨g, 7, none⟩) (.inl ((hS g).2 (.inr rfl))) _⟩
      | exact ⟨rfl, ⟨S, ⟨u0, u1, u2, _, blk_set HG.out 7 _, hS, ⟨Kd.Q_far (p := ⟨g, 7, none⟩) (Kd.Q_below r0 hB2) (far_g n0) _, Kd.Q_far (p := ⟨g, 7, none⟩) (Kd.Q_below r1 hB2) (far_g n1) _, Kd.Q_far (p := ⟨g, 7, none⟩) (Kd.Q_below r2 hB2) (far_g n2) _, Kd.Q_far (p := ⟨g, 7, none⟩) (Kd.Q_below (rr.2 hc1) hB2) (far_g n3) _⟩, ⟨a01, a02, a03, a12, a13, a23⟩, g0, below_set (hb.trans (hB2.mono hb.size)) g0⟩, fun k hk => .inl hk⟩, Kept.setCell (Kept.of_below hB2 S) (p := ⟨g, 7, none⟩) (.inl ((hS g).2 (.inr rfl))) _⟩)

set_option maxHeartbeats 4000000 in
set_option maxRecDepth 1000000 in
theorem QSt.sige3 {w0 w : World} {g : Nat} {S : Nat → Prop} {c0 c1 c2 c3 : Int} {l0 l1 l2 l3 : List Int} (h : QSt w0 w g S c0 l0 c1 l1 c2 l2 c3 l3) (hl : l3 = []) :
    Calls Tryd.prog 26 #[.pointer (some ⟨g, 0, none⟩), .int .i64 3] w fun e w' => e = .returned (.tuple #[.int .i64 0, .bool false, .int .i64 0]) ∧ (∃ S', QSt w0 w' g S' c0 l0 c1 l1 c2 l2 (min (wrap64 (c3 + 1)) 255) l3 ∧ ∀ k, S' k → S k ∨ w.heap.size ≤ k) ∧ Kept w w' S := by
  subst hl
  obtain ⟨u0, u1, u2, u3, hg, hS, ⟨r0, r1, r2, r3⟩, ⟨a01, a02, a03, a12, a13, a23⟩, g0, hb⟩ := h
  obtain ⟨A, cp, rfl, hcp, hC⟩ := Kd.Q_reads r3
  clear hcp hC
  go_enter Tryd.func26, Tryd.ntmps26
  go_wp2_with (first
    | (go_at_call 38
       refine (tontineref8_obj.calls 3 true _ (by decide)).mono ?_
       rintro e w1 ⟨rfl, hd⟩
       have hg1 := (hd.below.block _ (blk_lt hg)).trans hg
       obtain ⟨f0, f1, f2, f3, f4, f5, f6, f7⟩ := q_cells hg1))
  have n0 := ne_g r0 hg
  have n1 := ne_g r1 hg
  have n2 := ne_g r2 hg
  have n3 := ne_g r3 hg
  have HG := Goto.m0 hg1
  have HD := Goto.m0 hd
  clear hg1 f0 f1 f2 f3 f4 f5 f6 f7
  replace HG := Goto.m0 (blk_drew HG.out)
  have hbd := below_drew (Below.refl w1.heap.size w1)
  refine start_ (n := 14) (S := fun w' => w'.cell? ⟨g, 3, none⟩ = some (.int .i64 c3)) (ds := [13]) (.replicate 14 false) (by kernel_rfl) rfl rfl ((blk_cell HG.out 3).trans rfl) (fun hHeld => ?_)
  refine with_tabW sig_tab7 sig_bits7 (fun HT_ HW_ => ?_)
  generalize w1.drew = w2 at HG hbd hHeld ⊢
  refine Goto.pu 0 40 14 1 ?_
  refine Goto.pu 1 41 14 3 ?_
  refine Goto.pu 2 42 14 7 ?_
  refine Goto.pu 3 43 14 15 ?_
  refine Goto.pu 4 44 14 31 ?_
  refine Goto.pu 5 45 14 63 ?_
  refine Goto.pu 6 46 14 127 ?_
  refine Goto.pu 10 50 14 1151 ?_
  refine Goto.pu 11 51 14 3199 ?_
  refine take_ (i := 7) (N := some 47) (v := ?_) (a' := ?_) (Goto.bs 14 3327) rfl rfl (take_ofW HT_.out HW_.out (by kernel_rfl)) (fun _ _ _ h => h) (Or.inl ⟨by rfl, ?_⟩) hHeld ?_ ?_
  rotate_left
  · rintro w' s0
    go_simp
    with_reducible rfl
  rotate_left
  · exact Goto.ap
  refine Goto.pu 8 48 14 3583 ?_
  refine Goto.pu 9 49 14 4095 ?_
  refine Goto.pu 12 52 14 8191 ?_
  refine last_ (i := 13) (N := none) (Goto.bs 14 16383) rfl rfl (one_of HT_.out (by kernel_rfl)) (by decide) (fun K hK => ?_)
  have hs2 : w2.cell? ⟨g, 3, none⟩ = some (.int .i64 c3) := (blk_cell HG.out 3).trans rfl
  have hf2 := Goto.bf HG 3
  refine skip_ (w1 := ?_) (by rfl) rfl ?_ ?_
  rotate_left
  · go_simp
    rfl
  refine hK.out _ _ ?_
  clear hK K
  refine done_ (done_of HT_.out (by kernel_rfl)) ?_
  try go_wp2
  go_ret3
  have hB2 := HD.out.below.trans (hbd.mono HD.out.below.size)
  exact ⟨rfl, ⟨S, ⟨u0, u1, u2, _, blk_set HG.out 3 _, hS, ⟨Kd.Q_far (p := ⟨g, 3, none⟩) (Kd.Q_below r0 hB2) (far_g n0) _, Kd.Q_far (p := ⟨g, 3, none⟩) (Kd.Q_below r1 hB2) (far_g n1) _, Kd.Q_far (p := ⟨g, 3, none⟩) (Kd.Q_below r2 hB2) (far_g n2) _, Kd.Q_far (p := ⟨g, 3, none⟩) (Kd.Q_below r3 hB2) (far_g n3) _⟩, ⟨a01, a02, a03, a12, a13, a23⟩, g0, below_set (hb.trans (hB2.mono hb.size)) g0⟩, fun k hk => .inl hk⟩, Kept.setCell (Kept.of_below hB2 S) (p := ⟨g, 3, none⟩) (.inl ((hS g).2 (.inr rfl))) _⟩

end Go.Proofs.YtiejhnijfgdapaaDoor.P
