/- The reference's SameConf, of configurations that are not wide: whether all of them is the same. Walked by hand over SameRows, SameInts. -/
import Derived.Test.YtjgdcifbhmjinaaDoorPx12
import Derived.Test.YtjgdcifbhmjinaaDoorPx13
import Derived.Test.YtjgdcifbhmjinaaDoorPx1
import Derived.WalkKit
import Derived.Sort.WalkA
import Derived.Deep.RegionHeldLaw
namespace Go.Proofs.YtjgdcifbhmjinaaDoor.P
open Go Go.RowKit Go.Proofs.YtjgdcifbhmjinaaDoorW.PrintWords Go.Proofs.YtjgdcifbhmjinaaDoorW.PrintLast
set_option linter.unusedVariables false
theorem rs_wrap {i n : Nat} (h : i < n) (hn : n ≤ 1000) : wrap64 ((i : Int) + 1) = ((i + 1 : Nat) : Int) := by unfold wrap64; omega
theorem take_eq {α : Type} {l l' : List α} (i : Nat) (h : i < l.length) (h' : i < l'.length) (ht : l.take i = l'.take i) (he : l[i] = l'[i]) : l.take (i + 1) = l'.take (i + 1) := by
  rw [← List.take_append_getElem h, ← List.take_append_getElem h', ht, he]
theorem ints_l0 (l l' : List Int) (hl : l.length = l'.length) (h1 : l.length ≤ 1000) : ∀ (m i k : Nat), i + m = l.length → m < k → l.take i = l'.take i → tontineref1_SameInts.l0 k l l' (i : Int) = some (decide (l = l')) := by
  intro m
  induction m with
  | zero =>
    intro i k hi hk ht
    obtain ⟨k, rfl⟩ : ∃ m, k = m + 1 := ⟨k - 1, by omega⟩
    simp only [tontineref1_SameInts.l0]
    rw [if_neg (by omega)]
    rw [List.take_of_length_le (by omega), List.take_of_length_le (by omega)] at ht
    rw [decide_eq_true ht]
  | succ m ih =>
    intro i k hi hk ht
    obtain ⟨k, rfl⟩ : ∃ m, k = m + 1 := ⟨k - 1, by omega⟩
    have hil : i < l.length := by omega
    have hil' : i < l'.length := by omega
    simp only [tontineref1_SameInts.l0]
    have e1 : rd l (i : Int) = l[i] := by simp [rd, hil]
    have e2 : rd l' (i : Int) = l'[i] := by simp [rd, hil']
    rw [if_pos (by omega), if_pos (by omega), if_pos (by omega), e1, e2]
    by_cases he : l[i] = l'[i]
    · rw [if_pos he, rs_wrap hil h1]
      exact ih (i + 1) k (by omega) (by omega) (take_eq i hil hil' ht he)
    · rw [if_neg he, decide_eq_false]
      intro h
      subst h
      exact he rfl
theorem ints_f (l l' : List Int) (h1 : l.length ≤ 1000) (k : Nat) (hk : 1000 < k) : tontineref1_SameInts.f k l l' = some (decide (l = l')) := by
  unfold tontineref1_SameInts.f
  by_cases h : l.length = l'.length
  · rw [if_pos (by omega)]
    exact ints_l0 l l' h h1 l.length 0 k (by omega) (by omega) rfl
  · rw [if_neg (by omega), decide_eq_false]
    intro e
    rw [e] at h
    exact h rfl
theorem rows_l0 (l l' : List (List Int)) (hl : l.length = l'.length) (h1 : l.length ≤ 1000) (hr : ∀ r ∈ l, r.length ≤ 1000) : ∀ (m i k : Nat), i + m = l.length → m + 1001 < k → l.take i = l'.take i → tontineref1_SameRows.l0 k l l' (i : Int) = some (decide (l = l')) := by
  intro m
  induction m with
  | zero =>
    intro i k hi hk ht
    obtain ⟨k, rfl⟩ : ∃ m, k = m + 1 := ⟨k - 1, by omega⟩
    simp only [tontineref1_SameRows.l0]
    rw [if_neg (by omega)]
    rw [List.take_of_length_le (by omega), List.take_of_length_le (by omega)] at ht
    rw [decide_eq_true ht]
  | succ m ih =>
    intro i k hi hk ht
    obtain ⟨k, rfl⟩ : ∃ m, k = m + 1 := ⟨k - 1, by omega⟩
    have hil : i < l.length := by omega
    have hil' : i < l'.length := by omega
    simp only [tontineref1_SameRows.l0]
    have e1 : rd_L3 l (i : Int) = l[i] := by simp [rd_L3, hil]
    have e2 : rd_L3 l' (i : Int) = l'[i] := by simp [rd_L3, hil']
    rw [if_pos (by omega), if_pos (by omega), if_pos (by omega), e1, e2, ints_f _ _ (hr _ (List.getElem_mem hil)) k (by omega)]
    by_cases he : l[i] = l'[i]
    · rw [decide_eq_true he, rs_wrap hil h1]
      simp only [Option.bind_some, if_true]
      exact ih (i + 1) k (by omega) (by omega) (take_eq i hil hil' ht he)
    · rw [decide_eq_false he, decide_eq_false (p := l = l')]
      · rfl
      · intro h
        subst h
        exact he rfl
theorem rows_f (l l' : List (List Int)) (h1 : l.length ≤ 1000) (hr : ∀ r ∈ l, r.length ≤ 1000) (k : Nat) (hk : 2002 < k) : tontineref1_SameRows.f k l l' = some (decide (l = l')) := by
  unfold tontineref1_SameRows.f
  by_cases h : l.length = l'.length
  · rw [if_pos (by omega)]
    exact rows_l0 l l' h h1 hr l.length 0 k (by omega) (by omega) rfl
  · rw [if_neg (by omega), decide_eq_false]
    intro e
    rw [e] at h
    exact h rfl
def domEq (x y : S40) : Bool := (x.f0.f0 == y.f0.f0 && x.f0.f1 == y.f0.f1) && (decide (x.f1 = y.f1) && (decide (x.f2 = y.f2) && (x.f3 == y.f3 && (x.f4 == y.f4 && (x.f5 == y.f5 && (x.f6 == y.f6 && (x.f7 == y.f7 && x.f8 == y.f8)))))))
def domsEq : List S40 → List S40 → Bool
  | [], [] => true
  | x :: l, y :: l' => domEq x y && domsEq l l'
  | _, _ => false
theorem domsEq_len : ∀ (l l' : List S40), l.length ≠ l'.length → domsEq l l' = false
  | [], [], h => absurd rfl h
  | [], _ :: _, _ => rfl
  | _ :: _, [], _ => rfl
  | x :: l, y :: l', h => by
    rw [domsEq, domsEq_len l l' (by simpa using h), Bool.and_false]
theorem domsEq_range : ∀ (l l' : List S40), l.length = l'.length → domsEq l l' = (List.range l.length).all (fun j => domEq (rd_T40 l (j : Int)) (rd_T40 l' (j : Int)))
  | [], [], _ => rfl
  | x :: l, y :: l', h => by
    rw [domsEq, domsEq_range l l' (by simpa using h), List.length_cons, List.range_succ_eq_map, List.all_cons, List.all_map]
    rfl
def smallC (plans : List (List Int)) (doms : List S40) : Bool := decide (plans.length ≤ 1000) && plans.all (fun p => decide (p.length ≤ 1000)) && decide (doms.length ≤ 1000) && doms.all (fun d => decide (d.f1.length ≤ 1000) && decide (d.f2.length ≤ 1000) && d.f1.all (fun r => decide (r.length ≤ 1000)))
def confEq (a b : Int) (p : List (List Int)) (d : List S40) (a' b' : Int) (p' : List (List Int)) (d' : List S40) : Bool := a == a' && (b == b' && (decide (p = p') && domsEq d d'))
def ext_12.f (a b : Int) (p : List (List Int)) (d : List S40) (a' b' : Int) (p' : List (List Int)) (d' : List S40) : Option Bool :=
  if smallC p d = true then some (confEq a b p d a' b' p' d') else none
/-- The two configurations' variables. -/
def Bx (C D : Array Value) (w w' : World) : Prop := w'.heap[w.heap.size]? = some (.cells C 25 (0, 0)) ∧ w'.heap[w.heap.size + 1]? = some (.cells D 25 (0, 0)) ∧ Below w.heap.size w w'
theorem Bx.start (C D : Array Value) (w : World) : Bx C D w ((w.alloc (.cells C 25)).alloc (.cells D 25)) := by
  refine ⟨blk_alloc (blk_new w _) _, ?_, ((Below.refl w.heap.size w).alloc (Nat.le_refl _) _).alloc (by simp) _⟩
  have := blk_new (w.alloc (.cells C 25)) (.cells D 25)
  rwa [World.size_alloc] at this
theorem Bx.step {C D : Array Value} {w w1 w2 : World} (h : Bx C D w w1) (hb : Below w1.heap.size w1 w2) : Bx C D w w2 :=
  ⟨(hb.block _ (blk_lt h.1)).trans h.1, (hb.block _ (blk_lt h.2.1)).trans h.2.1, h.2.2.trans (hb.mono h.2.2.size)⟩
theorem Bx.cells {a b c d a' b' c' d' : Value} {w w1 : World} (h : Bx #[a, b, c, d] #[a', b', c', d'] w w1) :
    (w1.cell? ⟨w.heap.size, 0, none⟩ = some a ∧ w1.cell? ⟨w.heap.size, 1, none⟩ = some b ∧ w1.cell? ⟨w.heap.size, 2, none⟩ = some c ∧ w1.cell? ⟨w.heap.size, 3, none⟩ = some d) ∧
    (w1.cell? ⟨w.heap.size + 1, 0, none⟩ = some a' ∧ w1.cell? ⟨w.heap.size + 1, 1, none⟩ = some b' ∧ w1.cell? ⟨w.heap.size + 1, 2, none⟩ = some c' ∧ w1.cell? ⟨w.heap.size + 1, 3, none⟩ = some d') :=
  ⟨⟨(blk_cell h.1 0).trans rfl, (blk_cell h.1 1).trans rfl, (blk_cell h.1 2).trans rfl, (blk_cell h.1 3).trans rfl⟩, ⟨(blk_cell h.2.1 0).trans rfl, (blk_cell h.2.1 1).trans rfl, (blk_cell h.2.1 2).trans rfl, (blk_cell h.2.1 3).trans rfl⟩⟩
set_option maxHeartbeats 4000000 in
set_option maxRecDepth 1000000 in
theorem same_early (a b : Int) (A2 : Option Addr) (c2 : Nat) (p : List (List Int)) (A3 : Option Addr) (c3 : Nat) (d : List S40) (a' b' : Int) (B2 : Option Addr) (e2 : Nat) (p' : List (List Int)) (B3 : Option Addr) (e3 : Nat) (d' : List S40) (w : World) (hr2 : Kd.C (Kd.slice 3 (Kd.int .i64)) w A2 p.length p) (hc2 : p.length ≤ c2) (hr3 : Kd.C k40 w A3 d.length d) (hc3 : d.length ≤ c3)
    (hs2 : Kd.C (Kd.slice 3 (Kd.int .i64)) w B2 p'.length p') (he2 : p'.length ≤ e2) (hs3 : Kd.C k40 w B3 d'.length d') (he3 : d'.length ≤ e3)
    (hp : p.length ≤ 1000) (hpr : ∀ r ∈ p, r.length ≤ 1000)
    (hg : ¬ (a = a' ∧ b = b' ∧ p = p' ∧ d.length = d'.length)) :
    Calls Tryd.prog 12 #[.agg #[.int .i64 a, .int .i64 b, .slice A2 p.length c2, .slice A3 d.length c3], .agg #[.int .i64 a', .int .i64 b', .slice B2 p'.length e2, .slice B3 d'.length e3]] w fun e w' => e = .returned (.bool false) ∧ Below w.heap.size w w' := by
  have hcase : (a != a') = true ∨ (a != a') = false ∧ ((b != b') = true ∨ (b != b') = false ∧ (decide (p = p') = false ∨ decide (p = p') = true ∧ ((d.length : Int) != (d'.length : Int)) = true)) := by
    simp only [bne_iff_ne, ne_eq, bne_eq_false_iff_eq, decide_eq_false_iff_not, decide_eq_true_eq]
    by_cases c1 : a = a'
    · by_cases c2 : b = b'
      · by_cases c3 : p = p'
        · exact .inr ⟨c1, .inr ⟨c2, .inr ⟨c3, fun h => hg ⟨c1, c2, c3, by omega⟩⟩⟩⟩
        · exact .inr ⟨c1, .inr ⟨c2, .inl c3⟩⟩
      · exact .inr ⟨c1, .inl c2⟩
    · exact .inl c1
  clear hg
  have y0 := Bx.start #[.int .i64 a, .int .i64 b, .slice A2 p.length c2, .slice A3 d.length c3] #[.int .i64 a', .int .i64 b', .slice B2 p'.length e2, .slice B3 d'.length e3] w
  rcases hcase with g1 | ⟨g1, g2 | ⟨g2, g3 | ⟨g3, g4⟩⟩⟩
  · go_enter Tryd.func12, Tryd.ntmps12
    go_wp2
    go_ret
    exact ⟨rfl, y0.2.2⟩
  · go_enter Tryd.func12, Tryd.ntmps12
    go_wp2
    go_ret
    exact ⟨rfl, y0.2.2⟩
  all_goals (
    have hrf := rows_f p p' hp hpr 2003 (by omega)
    rw [g3] at hrf
    go_enter Tryd.func12, Tryd.ntmps12
    go_wp2_with (first
      | (go_at_call 28
         have hc := tontineref1_SameRows.calls 2003 A2 c2 p B2 e2 p' _ _ (Kd.C_below hr2 y0.2.2) hc2 (Kd.C_below hs2 y0.2.2) he2 hrf
         with_reducible refine hc.mono ?_
         clear hc
         rintro e w1 ⟨rfl, hd⟩
         have y1 := y0.step hd.below
         obtain ⟨⟨q0, q1, q2, q3⟩, q4, q5, q6, q7⟩ := y1.cells))
    go_ret
    exact ⟨rfl, y1.2.2⟩)
theorem same_no {d d' : List S40} {i : Nat} (h : i < d.length) (hn : domEq (rd_T40 d (i : Int)) (rd_T40 d' (i : Int)) = false) : (List.range d.length).all (fun j => domEq (rd_T40 d (j : Int)) (rd_T40 d' (j : Int))) = false := by
  rw [List.all_eq_false]
  exact ⟨i, List.mem_range.2 h, by rw [hn]; decide⟩
theorem dom_cells {W : World} {g : Nat} {v0 v1 v2 v3 v4 v5 v6 v7 v8 v9 : Value} (h : W.heap[g]? = some (.cells #[v0, v1, v2, v3, v4, v5, v6, v7, v8, v9] 40 (0, 0))) :
    W.cell? ⟨g, 0, none⟩ = some v0 ∧ W.cell? ⟨g, 1, none⟩ = some v1 ∧ W.cell? ⟨g, 2, none⟩ = some v2 ∧ W.cell? ⟨g, 3, none⟩ = some v3 ∧ W.cell? ⟨g, 4, none⟩ = some v4 ∧ W.cell? ⟨g, 5, none⟩ = some v5 ∧ W.cell? ⟨g, 6, none⟩ = some v6 ∧ W.cell? ⟨g, 7, none⟩ = some v7 ∧ W.cell? ⟨g, 8, none⟩ = some v8 ∧ W.cell? ⟨g, 9, none⟩ = some v9 :=
  ⟨(blk_cell h 0).trans rfl, (blk_cell h 1).trans rfl, (blk_cell h 2).trans rfl, (blk_cell h 3).trans rfl, (blk_cell h 4).trans rfl, (blk_cell h 5).trans rfl, (blk_cell h 6).trans rfl, (blk_cell h 7).trans rfl, (blk_cell h 8).trans rfl, (blk_cell h 9).trans rfl⟩
theorem two_new (wr : World) (o1 o2 : Obj) : ((wr.alloc o1).alloc o2).drew.heap[wr.heap.size]? = some o1 ∧ ((wr.alloc o1).alloc o2).drew.heap[wr.heap.size + 1]? = some o2 ∧ Below wr.heap.size wr ((wr.alloc o1).alloc o2).drew := by
  refine ⟨blk_alloc (blk_new wr _) _, ?_, below_drew (((Below.refl wr.heap.size wr).alloc (Nat.le_refl _) _).alloc (by simp) _)⟩
  have := blk_new (wr.alloc o1) o2
  rwa [World.size_alloc] at this
attribute [local go_sem high] eqA38
set_option maxHeartbeats 40000000 in
set_option maxRecDepth 1000000 in
theorem same_main (a b : Int) (A2 : Option Addr) (c2 : Nat) (p : List (List Int)) (A3 : Option Addr) (c3 : Nat) (d : List S40) (a' b' : Int) (B2 : Option Addr) (e2 : Nat) (p' : List (List Int)) (B3 : Option Addr) (e3 : Nat) (d' : List S40) (w : World) (hr2 : Kd.C (Kd.slice 3 (Kd.int .i64)) w A2 p.length p) (hc2 : p.length ≤ c2) (hr3 : Kd.C k40 w A3 d.length d) (hc3 : d.length ≤ c3)
    (hs2 : Kd.C (Kd.slice 3 (Kd.int .i64)) w B2 p'.length p') (he2 : p'.length ≤ e2) (hs3 : Kd.C k40 w B3 d'.length d') (he3 : d'.length ≤ e3)
    (hp : p.length ≤ 1000) (hpr : ∀ r ∈ p, r.length ≤ 1000) (hd1 : d.length ≤ 1000) (hdr : ∀ x ∈ d, x.f1.length ≤ 1000 ∧ x.f2.length ≤ 1000 ∧ ∀ r ∈ x.f1, r.length ≤ 1000)
    (g1 : a = a') (g2 : b = b') (g3 : p = p') (g4 : d.length = d'.length) :
    Calls Tryd.prog 12 #[.agg #[.int .i64 a, .int .i64 b, .slice A2 p.length c2, .slice A3 d.length c3], .agg #[.int .i64 a', .int .i64 b', .slice B2 p'.length e2, .slice B3 d'.length e3]] w fun e w' => e = .returned (.bool (domsEq d d')) ∧ Below w.heap.size w w' := by
  rw [domsEq_range d d' g4]
  have y0 := Bx.start #[.int .i64 a, .int .i64 b, .slice A2 p.length c2, .slice A3 d.length c3] #[.int .i64 a', .int .i64 b', .slice B2 p'.length e2, .slice B3 d'.length e3] w
  have hrf := rows_f p p' hp hpr 2003 (by omega)
  rw [decide_eq_true g3] at hrf
  have b1 : (a != a') = false := bne_eq_false_iff_eq.2 g1
  have b2 : (b != b') = false := bne_eq_false_iff_eq.2 g2
  have b4 : ((d.length : Int) != (d'.length : Int)) = false := bne_eq_false_iff_eq.2 (by omega)
  have G4 := Goto.m0 g4
  clear g1 g2 g3 g4
  go_enter Tryd.func12, Tryd.ntmps12
  go_wp2_with (first
    | (go_at_call 28
       have hc := tontineref1_SameRows.calls 2003 A2 c2 p B2 e2 p' _ _ (Kd.C_below hr2 y0.2.2) hc2 (Kd.C_below hs2 y0.2.2) he2 hrf
       with_reducible refine hc.mono ?_
       clear hc
       rintro e w1 ⟨rfl, hd⟩
       have y1 := y0.step hd.below
       obtain ⟨⟨q0, q1, q2, q3⟩, q4, q5, q6, q7⟩ := y1.cells))
  go_loopw [5] (fun v wr => ∃ i : Nat, i ≤ d.length ∧ v = .int .i64 (i : Nat) ∧ (∀ j, j < i → domEq (rd_T40 d (j : Int)) (rd_T40 d' (j : Int)) = true) ∧ Bx #[.int .i64 a, .int .i64 b, .slice A2 p.length c2, .slice A3 d.length c3] #[.int .i64 a', .int .i64 b', .slice B2 p'.length e2, .slice B3 d'.length e3] w wr)
    (fun v _ => d.length - (Lib.intOf v).toNat)
  case atStart => exact ⟨0, Nat.zero_le _, rfl, fun j hj => by omega, y1⟩
  case round =>
    clear q0 q1 q2 q3 q4 q5 q6 q7
    obtain ⟨i, hi, rfl, hall, hY⟩ := hrel
    obtain ⟨⟨q0, q1, q2, q3⟩, q4, q5, q6, q7⟩ := hY.cells
    by_cases hlt : i < d.length
    · have hltI : (i : Int) < (d.length : Int) := by omega
      have hltJ : (i : Int) < (d'.length : Int) := by have := G4.out; omega
      obtain ⟨ad, X2, x2, X3, x3, rfl, f0, f1, f2, f3, f4, f5, f6, f7, f8, f9, xl2, xC2, xl3, xC3⟩ := at_T40 (Kd.C_below hr3 hY.2.2) (i : Int) (by omega) (by omega)
      obtain ⟨ae, Y2, y2, Y3, y3, rfl, h0, h1, h2, h3, h4, h5, h6, h7, h8, h9, yl2, yC2, yl3, yC3⟩ := at_T40 (Kd.C_below hs3 hY.2.2) (i : Int) (by omega) (by omega)
      simp only [Int.toNat_natCast] at f0 f1 f2 f3 f4 f5 f6 f7 f8 f9 h0 h1 h2 h3 h4 h5 h6 h7 h8 h9
      generalize hx : rd_T40 d (i : Int) = x at f0 f1 f2 f3 f4 f5 f6 f7 f8 f9 xl2 xC2 xl3 xC3
      generalize hy : rd_T40 d' (i : Int) = y at h0 h1 h2 h3 h4 h5 h6 h7 h8 h9 yl2 yC2 yl3 yC3
      have hxr := hdr x (by
        rw [← hx]
        simp only [rd_T40, Int.toNat_natCast, List.getD, List.getElem?_eq_getElem hlt, Option.getD_some]
        exact List.getElem_mem hlt)
      obtain ⟨B0, hB0⟩ : ∃ B, (x.f0.f0 == y.f0.f0) = B := ⟨_, rfl⟩
      obtain ⟨B1, hB1⟩ : ∃ B, (x.f0.f1 == y.f0.f1) = B := ⟨_, rfl⟩
      obtain ⟨BR, hBR⟩ : ∃ B, decide (x.f1 = y.f1) = B := ⟨_, rfl⟩
      obtain ⟨BI, hBI⟩ : ∃ B, decide (x.f2 = y.f2) = B := ⟨_, rfl⟩
      obtain ⟨B3, hB3⟩ : ∃ B, (x.f3 == y.f3) = B := ⟨_, rfl⟩
      obtain ⟨B4, hB4⟩ : ∃ B, (x.f4 == y.f4) = B := ⟨_, rfl⟩
      obtain ⟨B5, hB5⟩ : ∃ B, (x.f5 == y.f5) = B := ⟨_, rfl⟩
      obtain ⟨B6, hB6⟩ : ∃ B, (x.f6 == y.f6) = B := ⟨_, rfl⟩
      obtain ⟨B7, hB7⟩ : ∃ B, (x.f7 == y.f7) = B := ⟨_, rfl⟩
      obtain ⟨B8, hB8⟩ : ∃ B, (x.f8 == y.f8) = B := ⟨_, rfl⟩
      have hdom : domEq x y = ((B0 && B1) && (BR && (BI && (B3 && (B4 && (B5 && (B6 && (B7 && B8)))))))) := by
        unfold domEq
        rw [hB0, hB1, hBR, hBI, hB3, hB4, hB5, hB6, hB7, hB8]
      have hRR := rows_f x.f1 y.f1 hxr.1 hxr.2.2 2003 (by omega)
      have hII := ints_f x.f2 y.f2 hxr.2.1 1001 (by omega)
      rw [hBR] at hRR
      rw [hBI] at hII
      clear hBR hBI
      have hN3 : (x.f3 != y.f3) = !B3 := by rw [← hB3]; rfl
      have hN4 : (x.f4 != y.f4) = !B4 := by rw [← hB4]; rfl
      have hN5 : (x.f5 != y.f5) = !B5 := by rw [← hB5]; rfl
      have hN6 : (x.f6 != y.f6) = !B6 := by rw [← hB6]; rfl
      have hN7 : (x.f7 != y.f7) = !B7 := by rw [← hB7]; rfl
      have hN8 : (x.f8 != y.f8) = !B8 := by rw [← hB8]; rfl
      have hcase := Goto.m0 (show (B0 = false ∨ B0 = true ∧ (B1 = false ∨ B1 = true ∧ (BR = false ∨ BR = true ∧ (BI = false ∨ BI = true ∧ (B3 = false ∨ B3 = true ∧ (B4 = false ∨ B4 = true ∧ (B5 = false ∨ B5 = true ∧ (B6 = false ∨ B6 = true ∧ (B7 = false ∨ B7 = true ∧ (B8 = false ∨ B8 = true)))))))))) from by
        cases B0 <;> cases B1 <;> cases BR <;> cases BI <;> cases B3 <;> cases B4 <;> cases B5 <;> cases B6 <;> cases B7 <;> cases B8 <;> simp)
      have hall2 := Goto.m0 hall
      clear hall
      go_wp2_with fail
      go_region_held_law (fun w' => w'.cell? ⟨w.heap.size, 3, none⟩ = some (.slice (some ad) d.length c3) ∧ w'.cell? ⟨w.heap.size + 1, 3, none⟩ = some (.slice (some ae) d'.length e3) ∧ w'.cell? (ad.add (i * 10)) = some (.int .i64 x.f0.f0) ∧ w'.cell? ⟨(ad.add (i * 10)).block, (ad.add (i * 10)).off + 1, none⟩ = some (.int .u64 x.f0.f1) ∧ w'.cell? ⟨(ad.add (i * 10)).block, (ad.add (i * 10)).off + 2, none⟩ = some (.slice X2 x.f1.length x2) ∧ w'.cell? ⟨(ad.add (i * 10)).block, (ad.add (i * 10)).off + 3, none⟩ = some (.slice X3 x.f2.length x3) ∧ w'.cell? ⟨(ad.add (i * 10)).block, (ad.add (i * 10)).off + 4, none⟩ = some (.int .i64 x.f3) ∧ w'.cell? ⟨(ad.add (i * 10)).block, (ad.add (i * 10)).off + 5, none⟩ = some (.int .i64 x.f4) ∧ w'.cell? ⟨(ad.add (i * 10)).block, (ad.add (i * 10)).off + 6, none⟩ = some (.int .i64 x.f5) ∧ w'.cell? ⟨(ad.add (i * 10)).block, (ad.add (i * 10)).off + 7, none⟩ = some (.int .i64 x.f6) ∧ w'.cell? ⟨(ad.add (i * 10)).block, (ad.add (i * 10)).off + 8, none⟩ = some (.int .i64 x.f7) ∧ w'.cell? ⟨(ad.add (i * 10)).block, (ad.add (i * 10)).off + 9, none⟩ = some (.int .i64 x.f8) ∧ w'.cell? (ae.add (i * 10)) = some (.int .i64 y.f0.f0) ∧ w'.cell? ⟨(ae.add (i * 10)).block, (ae.add (i * 10)).off + 1, none⟩ = some (.int .u64 y.f0.f1) ∧ w'.cell? ⟨(ae.add (i * 10)).block, (ae.add (i * 10)).off + 2, none⟩ = some (.slice Y2 y.f1.length y2) ∧ w'.cell? ⟨(ae.add (i * 10)).block, (ae.add (i * 10)).off + 3, none⟩ = some (.slice Y3 y.f2.length y3) ∧ w'.cell? ⟨(ae.add (i * 10)).block, (ae.add (i * 10)).off + 4, none⟩ = some (.int .i64 y.f3) ∧ w'.cell? ⟨(ae.add (i * 10)).block, (ae.add (i * 10)).off + 5, none⟩ = some (.int .i64 y.f4) ∧ w'.cell? ⟨(ae.add (i * 10)).block, (ae.add (i * 10)).off + 6, none⟩ = some (.int .i64 y.f5) ∧ w'.cell? ⟨(ae.add (i * 10)).block, (ae.add (i * 10)).off + 7, none⟩ = some (.int .i64 y.f6) ∧ w'.cell? ⟨(ae.add (i * 10)).block, (ae.add (i * 10)).off + 8, none⟩ = some (.int .i64 y.f7) ∧ w'.cell? ⟨(ae.add (i * 10)).block, (ae.add (i * 10)).off + 9, none⟩ = some (.int .i64 y.f8)) (go_keep) (fail)
      · have tn := two_new wr (.cells #[.int .i64 x.f0.f0, .int .u64 x.f0.f1, .slice X2 x.f1.length x2, .slice X3 x.f2.length x3, .int .i64 x.f3, .int .i64 x.f4, .int .i64 x.f5, .int .i64 x.f6, .int .i64 x.f7, .int .i64 x.f8] 40) (.cells #[.int .i64 y.f0.f0, .int .u64 y.f0.f1, .slice Y2 y.f1.length y2, .slice Y3 y.f2.length y3, .int .i64 y.f3, .int .i64 y.f4, .int .i64 y.f5, .int .i64 y.f6, .int .i64 y.f7, .int .i64 y.f8] 40)
        revert tn
        generalize ((wr.alloc (.cells #[.int .i64 x.f0.f0, .int .u64 x.f0.f1, .slice X2 x.f1.length x2, .slice X3 x.f2.length x3, .int .i64 x.f3, .int .i64 x.f4, .int .i64 x.f5, .int .i64 x.f6, .int .i64 x.f7, .int .i64 x.f8] 40)).alloc (.cells #[.int .i64 y.f0.f0, .int .u64 y.f0.f1, .slice Y2 y.f1.length y2, .slice Y3 y.f2.length y3, .int .i64 y.f3, .int .i64 y.f4, .int .i64 y.f5, .int .i64 y.f6, .int .i64 y.f7, .int .i64 y.f8] 40)).drew = W
        rintro ⟨t1, t2, tb⟩
        have hYW := hY.step tb
        have xC2' := Kd.C_below xC2 tb
        have xC3' := Kd.C_below xC3 tb
        have yC2' := Kd.C_below yC2 tb
        have yC3' := Kd.C_below yC3 tb
        clear q0 q1 q2 q3 q4 q5 q6 q7 f0 f1 f2 f3 f4 f5 f6 f7 f8 f9 h0 h1 h2 h3 h4 h5 h6 h7 h8 h9 xC2 xC3 yC2 yC3
        obtain ⟨f0, f1, f2, f3, f4, f5, f6, f7, f8, f9⟩ := dom_cells t1
        obtain ⟨h0, h1, h2, h3, h4, h5, h6, h7, h8, h9⟩ := dom_cells t2
        rcases hcase.out with rfl | ⟨rfl, rfl | ⟨rfl, rfl | ⟨rfl, rfl | ⟨rfl, rfl | ⟨rfl, rfl | ⟨rfl, rfl | ⟨rfl, rfl | ⟨rfl, rfl | ⟨rfl, rfl | rfl⟩⟩⟩⟩⟩⟩⟩⟩⟩
        all_goals (
          go_wp2_with (first
            | (go_at_call 28
               have hc := tontineref1_SameRows.calls 2003 X2 x2 x.f1 Y2 y2 y.f1 _ _ xC2' xl2 yC2' yl2 hRR
               with_reducible refine hc.mono ?_
               clear hc
               rintro e wA ⟨rfl, hdA⟩
               have tA1 := (hdA.below.block _ (blk_lt t1)).trans t1
               have tA2 := (hdA.below.block _ (blk_lt t2)).trans t2
               have hYA := hYW.step hdA.below
               clear f0 f1 f2 f3 f4 f5 f6 f7 f8 f9 h0 h1 h2 h3 h4 h5 h6 h7 h8 h9
               obtain ⟨f0, f1, f2, f3, f4, f5, f6, f7, f8, f9⟩ := dom_cells tA1
               obtain ⟨h0, h1, h2, h3, h4, h5, h6, h7, h8, h9⟩ := dom_cells tA2)
            | (go_at_call 29
               have hc := tontineref1_SameInts.calls 1001 X3 x3 x.f2 Y3 y3 y.f2 _ _ (Kd.C_below xC3' hdA.below) xl3 (Kd.C_below yC3' hdA.below) yl3 hII
               with_reducible refine hc.mono ?_
               clear hc
               rintro e wB ⟨rfl, hdB⟩
               have tB1 := (hdB.below.block _ (blk_lt tA1)).trans tA1
               have tB2 := (hdB.below.block _ (blk_lt tA2)).trans tA2
               have hYB := hYA.step hdB.below
               clear f0 f1 f2 f3 f4 f5 f6 f7 f8 f9 h0 h1 h2 h3 h4 h5 h6 h7 h8 h9
               obtain ⟨f0, f1, f2, f3, f4, f5, f6, f7, f8, f9⟩ := dom_cells tB1
               obtain ⟨h0, h1, h2, h3, h4, h5, h6, h7, h8, h9⟩ := dom_cells tB2))
          first
            | (go_ret
               refine ⟨?_, by first | exact hYB.2.2 | exact hYA.2.2 | exact hYW.2.2⟩
               show Ending.returned (.bool false) = _
               rw [same_no hlt (by rw [hx, hy, hdom]; rfl)])
            | (go_roundw
               case rel => exact ⟨i + 1, by omega, by simp, fun j hj => by
                   by_cases e : j = i
                   · subst e
                     rw [hx, hy, hdom]
                     rfl
                   · exact hall2.out j (by omega), hYB⟩
               case measure =>
                 simp [Lib.intOf]
                 omega))
      · have tn := two_new wr (.cells #[.int .i64 y.f0.f0, .int .u64 y.f0.f1, .slice Y2 y.f1.length y2, .slice Y3 y.f2.length y3, .int .i64 y.f3, .int .i64 y.f4, .int .i64 y.f5, .int .i64 y.f6, .int .i64 y.f7, .int .i64 y.f8] 40) (.cells #[.int .i64 x.f0.f0, .int .u64 x.f0.f1, .slice X2 x.f1.length x2, .slice X3 x.f2.length x3, .int .i64 x.f3, .int .i64 x.f4, .int .i64 x.f5, .int .i64 x.f6, .int .i64 x.f7, .int .i64 x.f8] 40)
        revert tn
        generalize ((wr.alloc (.cells #[.int .i64 y.f0.f0, .int .u64 y.f0.f1, .slice Y2 y.f1.length y2, .slice Y3 y.f2.length y3, .int .i64 y.f3, .int .i64 y.f4, .int .i64 y.f5, .int .i64 y.f6, .int .i64 y.f7, .int .i64 y.f8] 40)).alloc (.cells #[.int .i64 x.f0.f0, .int .u64 x.f0.f1, .slice X2 x.f1.length x2, .slice X3 x.f2.length x3, .int .i64 x.f3, .int .i64 x.f4, .int .i64 x.f5, .int .i64 x.f6, .int .i64 x.f7, .int .i64 x.f8] 40)).drew = W
        rintro ⟨t1, t2, tb⟩
        have hYW := hY.step tb
        have xC2' := Kd.C_below xC2 tb
        have xC3' := Kd.C_below xC3 tb
        have yC2' := Kd.C_below yC2 tb
        have yC3' := Kd.C_below yC3 tb
        clear q0 q1 q2 q3 q4 q5 q6 q7 f0 f1 f2 f3 f4 f5 f6 f7 f8 f9 h0 h1 h2 h3 h4 h5 h6 h7 h8 h9 xC2 xC3 yC2 yC3
        obtain ⟨h0, h1, h2, h3, h4, h5, h6, h7, h8, h9⟩ := dom_cells t1
        obtain ⟨f0, f1, f2, f3, f4, f5, f6, f7, f8, f9⟩ := dom_cells t2
        rcases hcase.out with rfl | ⟨rfl, rfl | ⟨rfl, rfl | ⟨rfl, rfl | ⟨rfl, rfl | ⟨rfl, rfl | ⟨rfl, rfl | ⟨rfl, rfl | ⟨rfl, rfl | ⟨rfl, rfl | rfl⟩⟩⟩⟩⟩⟩⟩⟩⟩
        all_goals (
          go_wp2_with (first
            | (go_at_call 28
               have hc := tontineref1_SameRows.calls 2003 X2 x2 x.f1 Y2 y2 y.f1 _ _ xC2' xl2 yC2' yl2 hRR
               with_reducible refine hc.mono ?_
               clear hc
               rintro e wA ⟨rfl, hdA⟩
               have tA1 := (hdA.below.block _ (blk_lt t1)).trans t1
               have tA2 := (hdA.below.block _ (blk_lt t2)).trans t2
               have hYA := hYW.step hdA.below
               clear h0 h1 h2 h3 h4 h5 h6 h7 h8 h9 f0 f1 f2 f3 f4 f5 f6 f7 f8 f9
               obtain ⟨h0, h1, h2, h3, h4, h5, h6, h7, h8, h9⟩ := dom_cells tA1
               obtain ⟨f0, f1, f2, f3, f4, f5, f6, f7, f8, f9⟩ := dom_cells tA2)
            | (go_at_call 29
               have hc := tontineref1_SameInts.calls 1001 X3 x3 x.f2 Y3 y3 y.f2 _ _ (Kd.C_below xC3' hdA.below) xl3 (Kd.C_below yC3' hdA.below) yl3 hII
               with_reducible refine hc.mono ?_
               clear hc
               rintro e wB ⟨rfl, hdB⟩
               have tB1 := (hdB.below.block _ (blk_lt tA1)).trans tA1
               have tB2 := (hdB.below.block _ (blk_lt tA2)).trans tA2
               have hYB := hYA.step hdB.below
               clear h0 h1 h2 h3 h4 h5 h6 h7 h8 h9 f0 f1 f2 f3 f4 f5 f6 f7 f8 f9
               obtain ⟨h0, h1, h2, h3, h4, h5, h6, h7, h8, h9⟩ := dom_cells tB1
               obtain ⟨f0, f1, f2, f3, f4, f5, f6, f7, f8, f9⟩ := dom_cells tB2))
          first
            | (go_ret
               refine ⟨?_, by first | exact hYB.2.2 | exact hYA.2.2 | exact hYW.2.2⟩
               show Ending.returned (.bool false) = _
               rw [same_no hlt (by rw [hx, hy, hdom]; rfl)])
            | (go_roundw
               case rel => exact ⟨i + 1, by omega, by simp, fun j hj => by
                   by_cases e : j = i
                   · subst e
                     rw [hx, hy, hdom]
                     rfl
                   · exact hall2.out j (by omega), hYB⟩
               case measure =>
                 simp [Lib.intOf]
                 omega))
    · have he : i = d.length := by omega
      subst he
      have hyes : (List.range d.length).all (fun j => domEq (rd_T40 d (j : Int)) (rd_T40 d' (j : Int))) = true := List.all_eq_true.2 (fun j hj => hall j (List.mem_range.1 hj))
      have HY := Goto.m0 hyes
      clear hall hyes hi hlt
      have hno : ¬ (d.length : Int) < (d.length : Int) := by omega
      go_wp2
      go_ret
      exact ⟨by rw [HY.out]; rfl, hY.2.2⟩
theorem ext_12.calls (a b : Int) (A2 : Option Addr) (c2 : Nat) (p : List (List Int)) (A3 : Option Addr) (c3 : Nat) (d : List S40) (a' b' : Int) (B2 : Option Addr) (e2 : Nat) (p' : List (List Int)) (B3 : Option Addr) (e3 : Nat) (d' : List S40) (r : Bool) (w : World) (hr2 : Kd.C (Kd.slice 3 (Kd.int .i64)) w A2 p.length p) (hc2 : p.length ≤ c2) (hr3 : Kd.C k40 w A3 d.length d) (hc3 : d.length ≤ c3)
    (hs2 : Kd.C (Kd.slice 3 (Kd.int .i64)) w B2 p'.length p') (he2 : p'.length ≤ e2) (hs3 : Kd.C k40 w B3 d'.length d') (he3 : d'.length ≤ e3) (h : ext_12.f a b p d a' b' p' d' = some r) :
    Calls Tryd.prog 12 #[.agg #[.int .i64 a, .int .i64 b, .slice A2 p.length c2, .slice A3 d.length c3], .agg #[.int .i64 a', .int .i64 b', .slice B2 p'.length e2, .slice B3 d'.length e3]] w fun e w' => e = .returned (.bool r) ∧ Below w.heap.size w w' := by
  unfold ext_12.f at h
  split at h
  · rename_i hs
    obtain rfl := Option.some.inj h
    simp only [smallC, Bool.and_eq_true, decide_eq_true_eq, List.all_eq_true] at hs
    obtain ⟨⟨⟨s1, s2⟩, s3⟩, s4⟩ := hs
    by_cases hg : a = a' ∧ b = b' ∧ p = p' ∧ d.length = d'.length
    · obtain ⟨g1, g2, g3, g4⟩ := hg
      have e : confEq a b p d a' b' p' d' = domsEq d d' := by
        unfold confEq
        rw [beq_iff_eq.2 g1, beq_iff_eq.2 g2, decide_eq_true g3]
        rfl
      rw [e]
      exact same_main a b A2 c2 p A3 c3 d a' b' B2 e2 p' B3 e3 d' w hr2 hc2 hr3 hc3 hs2 he2 hs3 he3 s1 s2 s3 (fun x hx => by have := s4 x hx; exact ⟨this.1.1, this.1.2, this.2⟩) g1 g2 g3 g4
    · have e : confEq a b p d a' b' p' d' = false := by
        unfold confEq
        by_cases g1 : a = a'
        · by_cases g2 : b = b'
          · by_cases g3 : p = p'
            · rw [domsEq_len d d' (fun h => hg ⟨g1, g2, g3, h⟩)]
              simp
            · rw [decide_eq_false g3]
              simp
          · rw [beq_eq_false_iff_ne.2 g2]
            simp
        · rw [beq_eq_false_iff_ne.2 g1]
          simp
      rw [e]
      exact same_early a b A2 c2 p A3 c3 d a' b' B2 e2 p' B3 e3 d' w hr2 hc2 hr3 hc3 hs2 he2 hs3 he3 s1 s2 hg
  · cases h
end Go.Proofs.YtjgdcifbhmjinaaDoor.P
