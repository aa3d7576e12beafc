/- Who waits no more: (*Objects).Drop over a variable that is lent: what it does of the rows. slices.DeleteFunc by the shelf's contract. -/
import Derived.Test.YtiejhnijfgdapaaDoorPx1
import Derived.Test.YtiejhnijfgdapaaDoorDf
import Derived.Lib.OwnBridge
import Derived.Lib.SliceRun
import Derived.Lib.Walk
import Derived.Deep.RegionWith
namespace Go.Proofs.YtiejhnijfgdapaaDoor.P
open Go Go.RowKit Go.Sort Go.Lib Go.Proofs.YtiejhnijfgdapaaDoorW.PrintWords Go.Proofs.YtiejhnijfgdapaaDoorW.PrintLast
set_option linter.unusedVariables false
def ext_27.g (a1 : Int) (t : Int × Int × List Int × Int × List Int × Int × List Int × Int × List Int) : Option (Bool × Int × List Int × Int × List Int × Int × List Int × Int × List Int) := if t.1 < 0 then some (false, t.2) else if t.1 = 0 then (if 0 < (t.2.2.1).length then some (true, t.2.1, (t.2.2.1).filter (fun z => !(z == a1)), t.2.2.2.1, t.2.2.2.2.1, t.2.2.2.2.2.1, t.2.2.2.2.2.2.1, t.2.2.2.2.2.2.2.1, t.2.2.2.2.2.2.2.2) else none) else if t.1 = 1 then (if 0 < (t.2.2.2.2.1).length then some (true, t.2.1, t.2.2.1, t.2.2.2.1, (t.2.2.2.2.1).filter (fun z => !(z == a1)), t.2.2.2.2.2.1, t.2.2.2.2.2.2.1, t.2.2.2.2.2.2.2.1, t.2.2.2.2.2.2.2.2) else none) else if t.1 = 2 then (if 0 < (t.2.2.2.2.2.2.1).length then some (true, t.2.1, t.2.2.1, t.2.2.2.1, t.2.2.2.2.1, t.2.2.2.2.2.1, (t.2.2.2.2.2.2.1).filter (fun z => !(z == a1)), t.2.2.2.2.2.2.2.1, t.2.2.2.2.2.2.2.2) else none) else if t.1 = 3 then (if 0 < (t.2.2.2.2.2.2.2.2).length then some (true, t.2.1, t.2.2.1, t.2.2.2.1, t.2.2.2.2.1, t.2.2.2.2.2.1, t.2.2.2.2.2.2.1, t.2.2.2.2.2.2.2.1, (t.2.2.2.2.2.2.2.2).filter (fun z => !(z == a1))) else none) else none
def ext_27.f (k : Nat) (a0_0 : Int) (l0_1 : List Int) (a0_2 : Int) (l0_3 : List Int) (a0_4 : Int) (l0_5 : List Int) (a0_6 : Int) (l0_7 : List Int) (a1 : Int) : Option (Bool × Int × List Int × Int × List Int × Int × List Int × Int × List Int) := (object_Objects_waits.f k a0_0 l0_1 a0_2 l0_3 a0_4 l0_5 a0_6 l0_7 a1).bind (ext_27.g a1)
theorem ext_27.mono (a0 : Int) (a1 : List Int) (a2 : Int) (a3 : List Int) (a4 : Int) (a5 : List Int) (a6 : Int) (a7 : List Int) (a8 : Int) (k : Nat) : LeO (ext_27.f k a0 a1 a2 a3 a4 a5 a6 a7 a8) (ext_27.f (k + 1) a0 a1 a2 a3 a4 a5 a6 a7 a8) := by
  unfold ext_27.f
  exact LeO.bind (object_Objects_waits.mono _ _ _ _ _ _ _ _ _ _) (fun _ => LeO.refl _)
section
variable {base : Nat} {ok ok' : Nat → Prop} {w w1 : World} {v : Value} {l : List Int}
theorem ext_27.move (h : Kd.R (Kd.int .i64) 3 w base ok v l) (hm : ∀ k, v.ownBlock = some k → w1.heap[k]? = w.heap[k]?) : Kd.R (Kd.int .i64) 3 w1 base ok v l := Kd.R_mono (Kd.R_move (Kd.R_tight rfl h) (fun k hk => hm k hk.symm)) (fun k hk => h.1 k hk.symm)
theorem ext_27.lt (h : Kd.R (Kd.int .i64) 3 w base ok v l) (k : Nat) (hk : v.ownBlock = some k) : k < w.heap.size := ((Kd.R_bound h).1 k hk).2.2.1
theorem ext_27.filter {b n cap : Nat} (h : Kd.R (Kd.int .i64) 3 w base ok (.slice (some ⟨b, 0, none⟩) n cap) l) (p : Int → Bool) (q : Nat) :
    Kd.R (Kd.int .i64) 3 (putRow (Value.int .i64) (Sort.ahead w q) b 0 ((l.filter p) ++ List.replicate (l.length - (l.filter p).length) 0).toArray) base ok (.slice (some ⟨b, 0, none⟩) (l.filter p).length cap) (l.filter p) := by
  obtain rfl := (Kd.R_reads' h).1
  have hle := List.length_filter_le p l
  have h1 := Lib.ownsRow_putRow (q := q) (k := (l.filter p).length) (ys := (l.filter p) ++ List.replicate (l.length - (l.filter p).length) 0) (Kd.own_of_R h) (by rw [List.length_append, List.length_replicate]; omega) hle
  rw [List.take_left] at h1
  exact Kd.R_of_own h1 (fun k hk => h.1 k (by simpa [Value.ownBlock] using hk))
theorem ext_27.far {b q : Nat} {d : Array Int} (k : Nat) (hk : k ≠ b) : (putRow (Value.int .i64) (Sort.ahead w q) b 0 d).heap[k]? = w.heap[k]? := by
  simp [putRow, mapBlock, Sort.ahead, Array.getElem?_modify, Ne.symm hk]
theorem ext_27.opened (h : Kd.R (Kd.int .i64) 3 w base ok v l) (hl : 0 < l.length) : ∃ b cap, v = .slice (some ⟨b, 0, none⟩) l.length cap ∧ l.length ≤ cap ∧ l.length ≤ 9223372036854775807 ∧ Holds (Value.int .i64) w b 0 l.toArray := by
  have ho := Kd.own_of_R h
  have hv : v ≠ .slice none 0 0 := by
    intro e
    rcases ho.2 with ⟨_, h0⟩ | ⟨g, cap, cur, rfl, _⟩
    · omega
    · cases e
  obtain ⟨b, cap, rfl, _, _, hn, hm, _, hH⟩ := Lib.holds_of_ownsRow ho hv
  exact ⟨b, cap, rfl, hn, by unfold maxLen at hm; omega, hH⟩
end
/-- The closure, in whatever world holds the number in its variable. -/
theorem ext_27.gives (id x : Int) (B : Nat) (W : World) (hc : W.cell? ⟨B, 0, none⟩ = some (.int .i64 id)) :
    FnGives Tryd.prog 42 #[.pointer (some ⟨B, 0, none⟩)] #[.int .i64 x] (.bool (x == id)) W := by
  show Calls Tryd.prog 42 #[.int .i64 x, .pointer (some ⟨B, 0, none⟩)] W _
  go_enter Tryd.func42, Tryd.ntmps42
  go_wp2
  all_goals (go_ret; exact ⟨by simp_all, 0, rfl⟩)
theorem ext_27.deletes (id : Int) (B b cap : Nat) (l : List Int) (w : World) (hB : w.heap[B]? = some (.cells #[.int .i64 id] 3 (0, 0))) (hne : B ≠ b) (hH : Holds (Value.int .i64) w b 0 l.toArray) (hsz : l.length ≤ 9223372036854775807) (hcap : l.length ≤ cap) :
    Calls Tryd.prog 41 #[.slice (some ⟨b, 0, none⟩) l.length cap, .func (.func 42) #[] #[.pointer (some ⟨B, 0, none⟩)]] w fun e w' => e = .returned (.slice (some ⟨b, 0, none⟩) (l.filter (fun z => !(z == id))).length cap) ∧ ∃ q, w' = putRow (Value.int .i64) (Sort.ahead w q) b 0 ((l.filter (fun z => !(z == id))) ++ List.replicate (l.length - (l.filter (fun z => !(z == id))).length) 0).toArray := by
  have hc : w.cell? ⟨B, 0, none⟩ = some (.int .i64 id) := (blk_cell hB 0).trans (by simp)
  have eg : ∀ args w, (callFunc 42 args).run Tryd.prog w = .ok (.enter 42 args) w := enters_of Tryd.func42 (by kernel_rfl) rfl
  have h := Tryd.slices_DeleteFunc (Value.int .i64) (fun _ => rfl) (fun x => x == id) 42 #[.pointer (some ⟨B, 0, none⟩)] eg 0 Tryd.zeroValue3 b 0 cap l.toArray w
    (fun W x hb => ext_27.gives id x B W ((hb.cell (p := ⟨B, 0, none⟩) (blk_lt hB)).trans hc))
    (fun n os dk x _ => ext_27.gives id x B _ (by
      unfold sortWorld
      rw [cell?_grow _ _ _ (by show B < (putRow _ _ _ _ _).heap.size; rw [size_putRow]; exact blk_lt hB), cell?_putRow_other _ _ b _ _ _ (Or.inl hne)]
      exact hc)) hH (by simpa using hsz) (by simpa using hcap)
  simpa using h
theorem ext_27.after (w1 wd w2 : World) (b q cap : Nat) (l : List Int) (p : Int → Bool) 
    (hw2 : w2 = putRow (Value.int .i64) (Sort.ahead wd q) b 0 ((l.filter p) ++ List.replicate (l.length - (l.filter p).length) 0).toArray) (hh : wd.heap = w1.heap) (hs : wd.os = w1.os) (ht : wd.tape = w1.tape) (hu : wd.output = w1.output) :
    (∀ k, k ≠ b → w2.heap[k]? = w1.heap[k]?) ∧ w1.heap.size ≤ w2.heap.size ∧ (∀ (n base : Nat) (ok : Nat → Prop), Kd.R (Kd.int .i64) 3 w1 base ok (.slice (some ⟨b, 0, none⟩) n cap) l → Kd.R (Kd.int .i64) 3 w2 base ok (.slice (some ⟨b, 0, none⟩) (l.filter p).length cap) (l.filter p)) ∧
      (∀ (B : Nat) (w0 : World), Below B w0 w1 → B ≤ b → Below B w0 w2) ∧ (∀ x : Addr, x.block ≠ b → w2.cell? x = w1.cell? x) ∧ (∀ x : Addr, w2.frozen? x = w1.frozen? x) := by
  subst hw2
  refine ⟨fun k hk => by rw [ext_27.far k hk, hh], by rw [size_putRow]; show w1.heap.size ≤ wd.heap.size; rw [hh]; exact Nat.le_refl _, fun n base ok h => ext_27.filter (ext_27.move (w1 := wd) h (fun k _ => by rw [hh])) p q, fun B w0 h hB => Lib.below_putRow ⟨by rw [hs]; exact h.os, by rw [ht]; exact h.tape, by rw [hu]; exact h.output, by rw [hh]; exact h.size, fun k hk => by rw [hh]; exact h.block k hk⟩ hB, fun x hx => ?_, fun x => ?_⟩
  · rw [cell?_putRow_other _ _ b _ _ _ (Or.inl hx)]; show (Sort.ahead wd q).cell? x = _; unfold World.cell? Sort.ahead; simp only [hh]
  · rw [frozen?_putRow]; show (Sort.ahead wd q).frozen? x = _; unfold World.frozen? Sort.ahead; simp only [hh]
theorem ext_27.put8 {w : World} {g : Nat} {x0 x1 x2 x3 x4 x5 x6 x7 : Value} (h : w.heap[g]? = some (.cells #[x0, x1, x2, x3, x4, x5, x6, x7] 86 (0, 0))) (u : Value) :
    (w.setCell ⟨g, 1, none⟩ u).heap[g]? = some (.cells #[x0, u, x2, x3, x4, x5, x6, x7] 86 (0, 0)) ∧ (w.setCell ⟨g, 3, none⟩ u).heap[g]? = some (.cells #[x0, x1, x2, u, x4, x5, x6, x7] 86 (0, 0)) ∧ (w.setCell ⟨g, 5, none⟩ u).heap[g]? = some (.cells #[x0, x1, x2, x3, x4, u, x6, x7] 86 (0, 0)) ∧ (w.setCell ⟨g, 7, none⟩ u).heap[g]? = some (.cells #[x0, x1, x2, x3, x4, x5, x6, u] 86 (0, 0)) :=
  ⟨blk_put h 1 u rfl, blk_put h 3 u rfl, blk_put h 5 u rfl, blk_put h 7 u rfl⟩
set_option maxRecDepth 100000 in
set_option maxHeartbeats 4000000 in
theorem ext_27.calls (k : Nat) (g : Nat) (a0_0 : Int) (P0_1_ : Nat → Prop) (u9000_ : Value) (l0_1 : List Int) (a0_2 : Int) (P0_3_ : Nat → Prop) (u9001_ : Value) (l0_3 : List Int) (a0_4 : Int) (P0_5_ : Nat → Prop) (u9002_ : Value) (l0_5 : List Int) (a0_6 : Int) (P0_7_ : Nat → Prop) (u9003_ : Value) (l0_7 : List Int) (a1 : Int) (r1 : Bool) (r2 : Int) (r3 : List Int) (r4 : Int) (r5 : List Int) (r6 : Int) (r7 : List Int) (r8 : Int) (r9 : List Int) (w0 w : World) (hI : w.heap[g]? = some (.cells #[.int .i64 a0_0, u9000_, .int .i64 a0_2, u9001_, .int .i64 a0_4, u9002_, .int .i64 a0_6, u9003_] 86 (0, 0))) (hG : w0.heap.size ≤ g) (hB : Below w0.heap.size w0 w) (ho0_1 : Kd.R (Kd.int .i64) 3 w w0.heap.size P0_1_ u9000_ l0_1) (hp0_1_0_3 : ∀ k_, P0_1_ k_ → ¬ P0_3_ k_) (hp0_1_0_5 : ∀ k_, P0_1_ k_ → ¬ P0_5_ k_) (hp0_1_0_7 : ∀ k_, P0_1_ k_ → ¬ P0_7_ k_) (ho0_3 : Kd.R (Kd.int .i64) 3 w w0.heap.size P0_3_ u9001_ l0_3) (hp0_3_0_1 : ∀ k_, P0_3_ k_ → ¬ P0_1_ k_) (hp0_3_0_5 : ∀ k_, P0_3_ k_ → ¬ P0_5_ k_) (hp0_3_0_7 : ∀ k_, P0_3_ k_ → ¬ P0_7_ k_) (ho0_5 : Kd.R (Kd.int .i64) 3 w w0.heap.size P0_5_ u9002_ l0_5) (hp0_5_0_1 : ∀ k_, P0_5_ k_ → ¬ P0_1_ k_) (hp0_5_0_3 : ∀ k_, P0_5_ k_ → ¬ P0_3_ k_) (hp0_5_0_7 : ∀ k_, P0_5_ k_ → ¬ P0_7_ k_) (ho0_7 : Kd.R (Kd.int .i64) 3 w w0.heap.size P0_7_ u9003_ l0_7) (hp0_7_0_1 : ∀ k_, P0_7_ k_ → ¬ P0_1_ k_) (hp0_7_0_3 : ∀ k_, P0_7_ k_ → ¬ P0_3_ k_) (hp0_7_0_5 : ∀ k_, P0_7_ k_ → ¬ P0_5_ k_) (h : ext_27.f k a0_0 l0_1 a0_2 l0_3 a0_4 l0_5 a0_6 l0_7 a1 = some (r1, r2, r3, r4, r5, r6, r7, r8, r9)) :
    Calls Tryd.prog 27 #[.pointer (some ⟨g, 0, none⟩), .int .i64 a1] w fun e w' => ∃ v2_ v4_ v6_ v8_ : Value, e = .returned (.bool r1) ∧ Kd.R (Kd.int .i64) 3 w' w0.heap.size (fun k_ => ((P0_1_ k_ ∨ P0_3_ k_ ∨ P0_5_ k_ ∨ P0_7_ k_) ∨ w.heap.size ≤ k_) ∧ some k_ ≠ (v4_ : Value).ownBlock ∧ some k_ ≠ (v6_ : Value).ownBlock ∧ some k_ ≠ (v8_ : Value).ownBlock) v2_ r3 ∧ Kd.R (Kd.int .i64) 3 w' w0.heap.size (fun k_ => ((P0_1_ k_ ∨ P0_3_ k_ ∨ P0_5_ k_ ∨ P0_7_ k_) ∨ w.heap.size ≤ k_) ∧ some k_ ≠ (v2_ : Value).ownBlock ∧ some k_ ≠ (v6_ : Value).ownBlock ∧ some k_ ≠ (v8_ : Value).ownBlock) v4_ r5 ∧ Kd.R (Kd.int .i64) 3 w' w0.heap.size (fun k_ => ((P0_1_ k_ ∨ P0_3_ k_ ∨ P0_5_ k_ ∨ P0_7_ k_) ∨ w.heap.size ≤ k_) ∧ some k_ ≠ (v2_ : Value).ownBlock ∧ some k_ ≠ (v4_ : Value).ownBlock ∧ some k_ ≠ (v8_ : Value).ownBlock) v6_ r7 ∧ Kd.R (Kd.int .i64) 3 w' w0.heap.size (fun k_ => ((P0_1_ k_ ∨ P0_3_ k_ ∨ P0_5_ k_ ∨ P0_7_ k_) ∨ w.heap.size ≤ k_) ∧ some k_ ≠ (v2_ : Value).ownBlock ∧ some k_ ≠ (v4_ : Value).ownBlock ∧ some k_ ≠ (v6_ : Value).ownBlock) v8_ r9 ∧ w'.heap[g]? = some (.cells #[.int .i64 r2, v2_, .int .i64 r4, v4_, .int .i64 r6, v6_, .int .i64 r8, v8_] 86 (0, 0)) ∧ Below w0.heap.size w0 w' ∧ Kept w w' (fun k_ => (P0_1_ k_ ∨ P0_3_ k_ ∨ P0_5_ k_ ∨ P0_7_ k_) ∨ k_ = g) := by
  unfold ext_27.f at h
  obtain ⟨⟨i, t0, t1, t2, t3, t4, t5, t6, t7⟩, hw, hg⟩ := Option.bind_eq_some_iff.mp h
  clear h
  have W := object_Objects_waits.calls k g a0_0 (fun q => some q = (u9000_ : Value).ownBlock) u9000_ l0_1 a0_2 (fun q => some q = (u9001_ : Value).ownBlock) u9001_ l0_3 a0_4 (fun q => some q = (u9002_ : Value).ownBlock) u9002_ l0_5 a0_6 (fun q => some q = (u9003_ : Value).ownBlock) u9003_ l0_7 a1 i t0 t1 t2 t3 t4 t5 t6 t7 w0 (w.alloc (.cells #[.int .i64 a1] 3 (0, 0))) (blk_alloc hI _) hG (below_alloc hB _) (Kd.R_alloc (Kd.R_tight rfl ho0_1) _) (fun q h1 h2 => hp0_1_0_3 q (ho0_1.1 q h1.symm) (ho0_3.1 q h2.symm)) (fun q h1 h2 => hp0_1_0_5 q (ho0_1.1 q h1.symm) (ho0_5.1 q h2.symm)) (fun q h1 h2 => hp0_1_0_7 q (ho0_1.1 q h1.symm) (ho0_7.1 q h2.symm)) (Kd.R_alloc (Kd.R_tight rfl ho0_3) _) (fun q h1 h2 => hp0_3_0_1 q (ho0_3.1 q h1.symm) (ho0_1.1 q h2.symm)) (fun q h1 h2 => hp0_3_0_5 q (ho0_3.1 q h1.symm) (ho0_5.1 q h2.symm)) (fun q h1 h2 => hp0_3_0_7 q (ho0_3.1 q h1.symm) (ho0_7.1 q h2.symm)) (Kd.R_alloc (Kd.R_tight rfl ho0_5) _) (fun q h1 h2 => hp0_5_0_1 q (ho0_5.1 q h1.symm) (ho0_1.1 q h2.symm)) (fun q h1 h2 => hp0_5_0_3 q (ho0_5.1 q h1.symm) (ho0_3.1 q h2.symm)) (fun q h1 h2 => hp0_5_0_7 q (ho0_5.1 q h1.symm) (ho0_7.1 q h2.symm)) (Kd.R_alloc (Kd.R_tight rfl ho0_7) _) (fun q h1 h2 => hp0_7_0_1 q (ho0_7.1 q h1.symm) (ho0_1.1 q h2.symm)) (fun q h1 h2 => hp0_7_0_3 q (ho0_7.1 q h1.symm) (ho0_3.1 q h2.symm)) (fun q h1 h2 => hp0_7_0_5 q (ho0_7.1 q h1.symm) (ho0_5.1 q h2.symm)) hw
  have hgl := blk_lt hI
  unfold ext_27.g at hg
  simp only [] at hg
  have hid : ∀ (w1 : World), Kept (w.alloc (.cells #[.int .i64 a1] 3 (0, 0))) w1 (fun k_ => (some k_ = (u9000_ : Value).ownBlock ∨ some k_ = (u9001_ : Value).ownBlock ∨ some k_ = (u9002_ : Value).ownBlock ∨ some k_ = (u9003_ : Value).ownBlock) ∨ k_ = g) → w1.heap[w.heap.size]? = some (.cells #[.int .i64 a1] 3 (0, 0)) := fun w1 HK => (HK.2 w.heap.size (by simp) (fun hs => by
    rcases hs with (hs | hs | hs | hs) | hs
    · exact absurd (ext_27.lt ho0_1 _ hs.symm) (Nat.lt_irrefl _)
    · exact absurd (ext_27.lt ho0_3 _ hs.symm) (Nat.lt_irrefl _)
    · exact absurd (ext_27.lt ho0_5 _ hs.symm) (Nat.lt_irrefl _)
    · exact absurd (ext_27.lt ho0_7 _ hs.symm) (Nat.lt_irrefl _)
    · omega)).trans (by rw [← World.alloc_eq]; simp)
  by_cases c0 : i < 0
  · rw [if_pos c0] at hg
    simp only [Option.some.injEq, Prod.mk.injEq] at hg
    obtain ⟨rfl, rfl, rfl, rfl, rfl, rfl, rfl, rfl, rfl⟩ := hg
    have cb : decide (i < 0) = true := decide_eq_true c0
    clear c0
    go_enter Tryd.func27, Tryd.ntmps27
    go_wp2_with fail
    refine W.mono ?_
    rintro e w1 ⟨v2, v4, v6, v8, rfl, R2, R4, R6, R8, BK, HBb, HK⟩
    have UPS := Aside0.mk (show ∀ q, ((some q = (u9000_ : Value).ownBlock ∨ some q = (u9001_ : Value).ownBlock ∨ some q = (u9002_ : Value).ownBlock ∨ some q = (u9003_ : Value).ownBlock) ∨ (w.alloc (.cells #[.int .i64 a1] 3 (0, 0))).heap.size ≤ q) → ((P0_1_ q ∨ P0_3_ q ∨ P0_5_ q ∨ P0_7_ q) ∨ w.heap.size ≤ q) from fun q hq => hq.elim (fun z => .inl (z.elim (fun z => .inl (ho0_1.1 q z.symm)) (fun z => .inr (z.elim (fun z => .inl (ho0_3.1 q z.symm)) (fun z => .inr (z.elim (fun z => .inl (ho0_5.1 q z.symm)) (fun z => .inr (ho0_7.1 q z.symm)))))))) (fun z => .inr (Nat.le_trans (by simp) z)))
    have Z := Aside0.mk (And.intro R2 (And.intro R4 (And.intro R6 (And.intro R8 (And.intro BK (And.intro HBb (Kept.then_ (S := fun k_ => (P0_1_ k_ ∨ P0_3_ k_ ∨ P0_5_ k_ ∨ P0_7_ k_) ∨ k_ = g) ((Kept.refl w _).alloc (.cells #[.int .i64 a1] 3 (0, 0))) HK (fun q hq => .inl (hq.elim (fun z => .inl (z.elim (fun z => .inl (ho0_1.1 q z.symm)) (fun z => .inr (z.elim (fun z => .inl (ho0_3.1 q z.symm)) (fun z => .inr (z.elim (fun z => .inl (ho0_5.1 q z.symm)) (fun z => .inr (ho0_7.1 q z.symm)))))))) (fun z => .inr z))))))))))
    clear R2 R4 R6 R8 BK HBb HK
    go_wp2
    go_ret
    obtain ⟨z1, z2, z3, z4, z5, z6, z7⟩ := Z.out
    exact ⟨v2, v4, v6, v8, rfl, Kd.R_mono z1 (fun q hq => ⟨UPS.out q hq.1, hq.2⟩), Kd.R_mono z2 (fun q hq => ⟨UPS.out q hq.1, hq.2⟩), Kd.R_mono z3 (fun q hq => ⟨UPS.out q hq.1, hq.2⟩), Kd.R_mono z4 (fun q hq => ⟨UPS.out q hq.1, hq.2⟩), z5, z6, z7⟩
  rw [if_neg c0] at hg
  by_cases c1 : i = 0
  · rw [if_pos c1] at hg
    subst c1
    have hl : 0 < (t1).length := by
      by_cases hl : 0 < (t1).length
      · exact hl
      · rw [if_neg hl] at hg; cases hg
    rw [if_pos hl] at hg
    simp only [Option.some.injEq, Prod.mk.injEq] at hg
    obtain ⟨rfl, rfl, rfl, rfl, rfl, rfl, rfl, rfl, rfl⟩ := hg
    clear c0
    go_enter Tryd.func27, Tryd.ntmps27
    go_wp2_with fail
    refine W.mono ?_
    rintro e w1 ⟨v2, v4, v6, v8, rfl, R2, R4, R6, R8, BK, HBb, HK⟩
    have hidb := hid w1 HK
    obtain ⟨b, cap, hv, hcap, hsz, hH⟩ := ext_27.opened R2 hl
    subst hv
    have hne : w.heap.size ≠ b := by
      intro e_
      have hb := R2.1 b rfl
      rcases hb.1 with (hs | hs | hs | hs) | hs
      · exact absurd (ext_27.lt ho0_1 _ hs.symm) (by omega)
      · exact absurd (ext_27.lt ho0_3 _ hs.symm) (by omega)
      · exact absurd (ext_27.lt ho0_5 _ hs.symm) (by omega)
      · exact absurd (ext_27.lt ho0_7 _ hs.symm) (by omega)
      · simp at hs; omega
    have hgb : g ≠ b := fun e_ => Kd.R_ne R2 BK (by decide) (by rw [e_]; rfl)
    have hbS := R2.1 b rfl
    have hbase := Kd.R_base R2 b rfl
    have HKp := (Kept.then_ (S := fun k_ => (P0_1_ k_ ∨ P0_3_ k_ ∨ P0_5_ k_ ∨ P0_7_ k_) ∨ k_ = g) ((Kept.refl w _).alloc (.cells #[.int .i64 a1] 3 (0, 0))) HK (fun q hq => .inl (hq.elim (fun z => .inl (z.elim (fun z => .inl (ho0_1.1 q z.symm)) (fun z => .inr (z.elim (fun z => .inl (ho0_3.1 q z.symm)) (fun z => .inr (z.elim (fun z => .inl (ho0_5.1 q z.symm)) (fun z => .inr (ho0_7.1 q z.symm)))))))) (fun z => .inr z))))
    have Z := Aside0.mk (And.intro R2 (And.intro R4 (And.intro R6 (And.intro R8 (And.intro BK (And.intro HBb (And.intro HKp (And.intro hbS hbase))))))))
    have UPS := Aside0.mk (show ∀ q, ((some q = (u9000_ : Value).ownBlock ∨ some q = (u9001_ : Value).ownBlock ∨ some q = (u9002_ : Value).ownBlock ∨ some q = (u9003_ : Value).ownBlock) ∨ (w.alloc (.cells #[.int .i64 a1] 3 (0, 0))).heap.size ≤ q) → ((P0_1_ q ∨ P0_3_ q ∨ P0_5_ q ∨ P0_7_ q) ∨ w.heap.size ≤ q) from fun q hq => hq.elim (fun z => .inl (z.elim (fun z => .inl (ho0_1.1 q z.symm)) (fun z => .inr (z.elim (fun z => .inl (ho0_3.1 q z.symm)) (fun z => .inr (z.elim (fun z => .inl (ho0_5.1 q z.symm)) (fun z => .inr (ho0_7.1 q z.symm)))))))) (fun z => .inr (Nat.le_trans (by simp) z)))
    have HGe := Aside0.mk hG
    have hc0 := Goto.bc0 (Goto.m0 BK); have hc1 := Goto.bc1 (Goto.m0 BK); have hc3 := Goto.bc3 (Goto.m0 BK); have hc5 := Goto.bc5 (Goto.m0 BK); have hc7 := Goto.bc7 (Goto.m0 BK)
    have hf1 := Goto.bf (Goto.m0 BK) 1; have hf3 := Goto.bf (Goto.m0 BK) 3; have hf5 := Goto.bf (Goto.m0 BK) 5; have hf7 := Goto.bf (Goto.m0 BK) 7
    have HID := Aside0.mk hidb; have HH := Aside0.mk hH; have HNE := Aside0.mk hne
    clear R2 R4 R6 R8 BK HBb HK HKp hbS hbase hidb hH hI hG hB ho0_1 ho0_3 ho0_5 ho0_7 hp0_1_0_3 hp0_1_0_5 hp0_1_0_7 hp0_3_0_1 hp0_3_0_5 hp0_3_0_7 hp0_5_0_1 hp0_5_0_3 hp0_5_0_7 hp0_7_0_1 hp0_7_0_3 hp0_7_0_5 hid W hw
    have HG := Aside0.mk hgb
    clear hgb hne
    go_wp2_with fail
    go_region_with (go_at_call 41; (refine (ext_27.deletes a1 w.heap.size b cap t1 _ (by exact HID.out) HNE.out (by exact HH.out) hsz hcap).mono ?_); rintro e w2 ⟨rfl, q, hw2⟩; have AF := Aside0.mk (ext_27.after w1 _ w2 b q cap t1 _ hw2 rfl rfl rfl rfl); have hk1 := (AF.out.2.2.2.2.1 ⟨g, 1, none⟩ HG.out).trans hc1; have hk2 := (AF.out.2.2.2.2.2 ⟨g, 1, none⟩).trans hf1; clear hw2 hc0 hc1 hc3 hc5 hc7 hf1 hf3 hf5 hf7)
    all_goals
      go_wp2
      go_ret
      obtain ⟨R2, R4, R6, R8, BK, HBb, HKp, hbS, hbase⟩ := Z.out
      have hgb := HG.out
      obtain ⟨far, hszl, fil, bel, _, _⟩ := AF.out
      have BK2 := (far g hgb).trans BK
      have F := fil _ _ _ R2
      have st : ∀ (x : Value) (k : Nat), k ≠ g → (w2.setCell ⟨g, 1, none⟩ x).heap[k]? = w2.heap[k]? := fun x k hk => Below.heap_setCell _ _ _ k hk
      have F0 := ext_27.move (w1 := w2.setCell ⟨g, 1, none⟩ (.slice (some ⟨b, 0, none⟩) (t1.filter (fun z => !(z == a1))).length cap)) F (fun k hk => st _ k (fun e_ => hgb (by rw [← e_]; exact (Option.some.inj hk).symm)))
      have F1 := ext_27.move (w1 := w2.setCell ⟨g, 1, none⟩ (.slice (some ⟨b, 0, none⟩) (t1.filter (fun z => !(z == a1))).length cap)) R4 (fun k hk => (st _ k (fun e_ => Kd.R_ne R4 BK (by decide) (by rw [← e_]; exact hk.symm))).trans (far k (fun e_ => (R4.1 k hk).2.1 (by rw [e_]; rfl))))
      have F2 := ext_27.move (w1 := w2.setCell ⟨g, 1, none⟩ (.slice (some ⟨b, 0, none⟩) (t1.filter (fun z => !(z == a1))).length cap)) R6 (fun k hk => (st _ k (fun e_ => Kd.R_ne R6 BK (by decide) (by rw [← e_]; exact hk.symm))).trans (far k (fun e_ => (R6.1 k hk).2.1 (by rw [e_]; rfl))))
      have F3 := ext_27.move (w1 := w2.setCell ⟨g, 1, none⟩ (.slice (some ⟨b, 0, none⟩) (t1.filter (fun z => !(z == a1))).length cap)) R8 (fun k hk => (st _ k (fun e_ => Kd.R_ne R8 BK (by decide) (by rw [← e_]; exact hk.symm))).trans (far k (fun e_ => (R8.1 k hk).2.1 (by rw [e_]; rfl))))
      refine ⟨.slice (some ⟨b, 0, none⟩) (t1.filter (fun z => !(z == a1))).length cap, v4, v6, v8, rfl, Kd.R_mono F0 (fun q hq => ⟨UPS.out q hq.1, hq.2⟩), Kd.R_mono F1 (fun q hq => ⟨UPS.out q hq.1, hq.2⟩), Kd.R_mono F2 (fun q hq => ⟨UPS.out q hq.1, hq.2⟩), Kd.R_mono F3 (fun q hq => ⟨UPS.out q hq.1, hq.2⟩), (ext_27.put8 BK2 _).1, ?_, ?_⟩
      · exact (bel _ _ HBb hbase).setCell HGe.out _
      · refine Kept.setCell (Kept.then_ (S2 := fun k => k = b) HKp ⟨hszl, fun k _ hk => far k hk⟩ (fun k hk => ?_)) (.inl (.inr rfl)) _
        subst hk
        exact (UPS.out k hbS.1).elim (fun z => .inl (.inl z)) (fun z => .inr z)
  rw [if_neg c1] at hg
  by_cases c2 : i = 1
  · rw [if_pos c2] at hg
    subst c2
    have hl : 0 < (t3).length := by
      by_cases hl : 0 < (t3).length
      · exact hl
      · rw [if_neg hl] at hg; cases hg
    rw [if_pos hl] at hg
    simp only [Option.some.injEq, Prod.mk.injEq] at hg
    obtain ⟨rfl, rfl, rfl, rfl, rfl, rfl, rfl, rfl, rfl⟩ := hg
    clear c0
    go_enter Tryd.func27, Tryd.ntmps27
    go_wp2_with fail
    refine W.mono ?_
    rintro e w1 ⟨v2, v4, v6, v8, rfl, R2, R4, R6, R8, BK, HBb, HK⟩
    have hidb := hid w1 HK
    obtain ⟨b, cap, hv, hcap, hsz, hH⟩ := ext_27.opened R4 hl
    subst hv
    have hne : w.heap.size ≠ b := by
      intro e_
      have hb := R4.1 b rfl
      rcases hb.1 with (hs | hs | hs | hs) | hs
      · exact absurd (ext_27.lt ho0_1 _ hs.symm) (by omega)
      · exact absurd (ext_27.lt ho0_3 _ hs.symm) (by omega)
      · exact absurd (ext_27.lt ho0_5 _ hs.symm) (by omega)
      · exact absurd (ext_27.lt ho0_7 _ hs.symm) (by omega)
      · simp at hs; omega
    have hgb : g ≠ b := fun e_ => Kd.R_ne R4 BK (by decide) (by rw [e_]; rfl)
    have hbS := R4.1 b rfl
    have hbase := Kd.R_base R4 b rfl
    have HKp := (Kept.then_ (S := fun k_ => (P0_1_ k_ ∨ P0_3_ k_ ∨ P0_5_ k_ ∨ P0_7_ k_) ∨ k_ = g) ((Kept.refl w _).alloc (.cells #[.int .i64 a1] 3 (0, 0))) HK (fun q hq => .inl (hq.elim (fun z => .inl (z.elim (fun z => .inl (ho0_1.1 q z.symm)) (fun z => .inr (z.elim (fun z => .inl (ho0_3.1 q z.symm)) (fun z => .inr (z.elim (fun z => .inl (ho0_5.1 q z.symm)) (fun z => .inr (ho0_7.1 q z.symm)))))))) (fun z => .inr z))))
    have Z := Aside0.mk (And.intro R2 (And.intro R4 (And.intro R6 (And.intro R8 (And.intro BK (And.intro HBb (And.intro HKp (And.intro hbS hbase))))))))
    have UPS := Aside0.mk (show ∀ q, ((some q = (u9000_ : Value).ownBlock ∨ some q = (u9001_ : Value).ownBlock ∨ some q = (u9002_ : Value).ownBlock ∨ some q = (u9003_ : Value).ownBlock) ∨ (w.alloc (.cells #[.int .i64 a1] 3 (0, 0))).heap.size ≤ q) → ((P0_1_ q ∨ P0_3_ q ∨ P0_5_ q ∨ P0_7_ q) ∨ w.heap.size ≤ q) from fun q hq => hq.elim (fun z => .inl (z.elim (fun z => .inl (ho0_1.1 q z.symm)) (fun z => .inr (z.elim (fun z => .inl (ho0_3.1 q z.symm)) (fun z => .inr (z.elim (fun z => .inl (ho0_5.1 q z.symm)) (fun z => .inr (ho0_7.1 q z.symm)))))))) (fun z => .inr (Nat.le_trans (by simp) z)))
    have HGe := Aside0.mk hG
    have hc0 := Goto.bc0 (Goto.m0 BK); have hc1 := Goto.bc1 (Goto.m0 BK); have hc3 := Goto.bc3 (Goto.m0 BK); have hc5 := Goto.bc5 (Goto.m0 BK); have hc7 := Goto.bc7 (Goto.m0 BK)
    have hf1 := Goto.bf (Goto.m0 BK) 1; have hf3 := Goto.bf (Goto.m0 BK) 3; have hf5 := Goto.bf (Goto.m0 BK) 5; have hf7 := Goto.bf (Goto.m0 BK) 7
    have HID := Aside0.mk hidb; have HH := Aside0.mk hH; have HNE := Aside0.mk hne
    clear R2 R4 R6 R8 BK HBb HK HKp hbS hbase hidb hH hI hG hB ho0_1 ho0_3 ho0_5 ho0_7 hp0_1_0_3 hp0_1_0_5 hp0_1_0_7 hp0_3_0_1 hp0_3_0_5 hp0_3_0_7 hp0_5_0_1 hp0_5_0_3 hp0_5_0_7 hp0_7_0_1 hp0_7_0_3 hp0_7_0_5 hid W hw
    have HG := Aside0.mk hgb
    clear hgb hne
    go_wp2_with fail
    go_region_with (go_at_call 41; (refine (ext_27.deletes a1 w.heap.size b cap t3 _ (by exact HID.out) HNE.out (by exact HH.out) hsz hcap).mono ?_); rintro e w2 ⟨rfl, q, hw2⟩; have AF := Aside0.mk (ext_27.after w1 _ w2 b q cap t3 _ hw2 rfl rfl rfl rfl); have hk1 := (AF.out.2.2.2.2.1 ⟨g, 3, none⟩ HG.out).trans hc3; have hk2 := (AF.out.2.2.2.2.2 ⟨g, 3, none⟩).trans hf3; clear hw2 hc0 hc1 hc3 hc5 hc7 hf1 hf3 hf5 hf7)
    all_goals
      go_wp2
      go_ret
      obtain ⟨R2, R4, R6, R8, BK, HBb, HKp, hbS, hbase⟩ := Z.out
      have hgb := HG.out
      obtain ⟨far, hszl, fil, bel, _, _⟩ := AF.out
      have BK2 := (far g hgb).trans BK
      have F := fil _ _ _ R4
      have st : ∀ (x : Value) (k : Nat), k ≠ g → (w2.setCell ⟨g, 3, none⟩ x).heap[k]? = w2.heap[k]? := fun x k hk => Below.heap_setCell _ _ _ k hk
      have F0 := ext_27.move (w1 := w2.setCell ⟨g, 3, none⟩ (.slice (some ⟨b, 0, none⟩) (t3.filter (fun z => !(z == a1))).length cap)) R2 (fun k hk => (st _ k (fun e_ => Kd.R_ne R2 BK (by decide) (by rw [← e_]; exact hk.symm))).trans (far k (fun e_ => (R2.1 k hk).2.1 (by rw [e_]; rfl))))
      have F1 := ext_27.move (w1 := w2.setCell ⟨g, 3, none⟩ (.slice (some ⟨b, 0, none⟩) (t3.filter (fun z => !(z == a1))).length cap)) F (fun k hk => st _ k (fun e_ => hgb (by rw [← e_]; exact (Option.some.inj hk).symm)))
      have F2 := ext_27.move (w1 := w2.setCell ⟨g, 3, none⟩ (.slice (some ⟨b, 0, none⟩) (t3.filter (fun z => !(z == a1))).length cap)) R6 (fun k hk => (st _ k (fun e_ => Kd.R_ne R6 BK (by decide) (by rw [← e_]; exact hk.symm))).trans (far k (fun e_ => (R6.1 k hk).2.2.1 (by rw [e_]; rfl))))
      have F3 := ext_27.move (w1 := w2.setCell ⟨g, 3, none⟩ (.slice (some ⟨b, 0, none⟩) (t3.filter (fun z => !(z == a1))).length cap)) R8 (fun k hk => (st _ k (fun e_ => Kd.R_ne R8 BK (by decide) (by rw [← e_]; exact hk.symm))).trans (far k (fun e_ => (R8.1 k hk).2.2.1 (by rw [e_]; rfl))))
      refine ⟨v2, .slice (some ⟨b, 0, none⟩) (t3.filter (fun z => !(z == a1))).length cap, v6, v8, rfl, Kd.R_mono F0 (fun q hq => ⟨UPS.out q hq.1, hq.2⟩), Kd.R_mono F1 (fun q hq => ⟨UPS.out q hq.1, hq.2⟩), Kd.R_mono F2 (fun q hq => ⟨UPS.out q hq.1, hq.2⟩), Kd.R_mono F3 (fun q hq => ⟨UPS.out q hq.1, hq.2⟩), (ext_27.put8 BK2 _).2.1, ?_, ?_⟩
      · exact (bel _ _ HBb hbase).setCell HGe.out _
      · refine Kept.setCell (Kept.then_ (S2 := fun k => k = b) HKp ⟨hszl, fun k _ hk => far k hk⟩ (fun k hk => ?_)) (.inl (.inr rfl)) _
        subst hk
        exact (UPS.out k hbS.1).elim (fun z => .inl (.inl z)) (fun z => .inr z)
  rw [if_neg c2] at hg
  by_cases c3 : i = 2
  · rw [if_pos c3] at hg
    subst c3
    have hl : 0 < (t5).length := by
      by_cases hl : 0 < (t5).length
      · exact hl
      · rw [if_neg hl] at hg; cases hg
    rw [if_pos hl] at hg
    simp only [Option.some.injEq, Prod.mk.injEq] at hg
    obtain ⟨rfl, rfl, rfl, rfl, rfl, rfl, rfl, rfl, rfl⟩ := hg
    clear c0
    go_enter Tryd.func27, Tryd.ntmps27
    go_wp2_with fail
    refine W.mono ?_
    rintro e w1 ⟨v2, v4, v6, v8, rfl, R2, R4, R6, R8, BK, HBb, HK⟩
    have hidb := hid w1 HK
    obtain ⟨b, cap, hv, hcap, hsz, hH⟩ := ext_27.opened R6 hl
    subst hv
    have hne : w.heap.size ≠ b := by
      intro e_
      have hb := R6.1 b rfl
      rcases hb.1 with (hs | hs | hs | hs) | hs
      · exact absurd (ext_27.lt ho0_1 _ hs.symm) (by omega)
      · exact absurd (ext_27.lt ho0_3 _ hs.symm) (by omega)
      · exact absurd (ext_27.lt ho0_5 _ hs.symm) (by omega)
      · exact absurd (ext_27.lt ho0_7 _ hs.symm) (by omega)
      · simp at hs; omega
    have hgb : g ≠ b := fun e_ => Kd.R_ne R6 BK (by decide) (by rw [e_]; rfl)
    have hbS := R6.1 b rfl
    have hbase := Kd.R_base R6 b rfl
    have HKp := (Kept.then_ (S := fun k_ => (P0_1_ k_ ∨ P0_3_ k_ ∨ P0_5_ k_ ∨ P0_7_ k_) ∨ k_ = g) ((Kept.refl w _).alloc (.cells #[.int .i64 a1] 3 (0, 0))) HK (fun q hq => .inl (hq.elim (fun z => .inl (z.elim (fun z => .inl (ho0_1.1 q z.symm)) (fun z => .inr (z.elim (fun z => .inl (ho0_3.1 q z.symm)) (fun z => .inr (z.elim (fun z => .inl (ho0_5.1 q z.symm)) (fun z => .inr (ho0_7.1 q z.symm)))))))) (fun z => .inr z))))
    have Z := Aside0.mk (And.intro R2 (And.intro R4 (And.intro R6 (And.intro R8 (And.intro BK (And.intro HBb (And.intro HKp (And.intro hbS hbase))))))))
    have UPS := Aside0.mk (show ∀ q, ((some q = (u9000_ : Value).ownBlock ∨ some q = (u9001_ : Value).ownBlock ∨ some q = (u9002_ : Value).ownBlock ∨ some q = (u9003_ : Value).ownBlock) ∨ (w.alloc (.cells #[.int .i64 a1] 3 (0, 0))).heap.size ≤ q) → ((P0_1_ q ∨ P0_3_ q ∨ P0_5_ q ∨ P0_7_ q) ∨ w.heap.size ≤ q) from fun q hq => hq.elim (fun z => .inl (z.elim (fun z => .inl (ho0_1.1 q z.symm)) (fun z => .inr (z.elim (fun z => .inl (ho0_3.1 q z.symm)) (fun z => .inr (z.elim (fun z => .inl (ho0_5.1 q z.symm)) (fun z => .inr (ho0_7.1 q z.symm)))))))) (fun z => .inr (Nat.le_trans (by simp) z)))
    have HGe := Aside0.mk hG
    have hc0 := Goto.bc0 (Goto.m0 BK); have hc1 := Goto.bc1 (Goto.m0 BK); have hc3 := Goto.bc3 (Goto.m0 BK); have hc5 := Goto.bc5 (Goto.m0 BK); have hc7 := Goto.bc7 (Goto.m0 BK)
    have hf1 := Goto.bf (Goto.m0 BK) 1; have hf3 := Goto.bf (Goto.m0 BK) 3; have hf5 := Goto.bf (Goto.m0 BK) 5; have hf7 := Goto.bf (Goto.m0 BK) 7
    have HID := Aside0.mk hidb; have HH := Aside0.mk hH; have HNE := Aside0.mk hne
    clear R2 R4 R6 R8 BK HBb HK HKp hbS hbase hidb hH hI hG hB ho0_1 ho0_3 ho0_5 ho0_7 hp0_1_0_3 hp0_1_0_5 hp0_1_0_7 hp0_3_0_1 hp0_3_0_5 hp0_3_0_7 hp0_5_0_1 hp0_5_0_3 hp0_5_0_7 hp0_7_0_1 hp0_7_0_3 hp0_7_0_5 hid W hw
    have HG := Aside0.mk hgb
    clear hgb hne
    go_wp2_with fail
    go_region_with (go_at_call 41; (refine (ext_27.deletes a1 w.heap.size b cap t5 _ (by exact HID.out) HNE.out (by exact HH.out) hsz hcap).mono ?_); rintro e w2 ⟨rfl, q, hw2⟩; have AF := Aside0.mk (ext_27.after w1 _ w2 b q cap t5 _ hw2 rfl rfl rfl rfl); have hk1 := (AF.out.2.2.2.2.1 ⟨g, 5, none⟩ HG.out).trans hc5; have hk2 := (AF.out.2.2.2.2.2 ⟨g, 5, none⟩).trans hf5; clear hw2 hc0 hc1 hc3 hc5 hc7 hf1 hf3 hf5 hf7)
    all_goals
      go_wp2
      go_ret
      obtain ⟨R2, R4, R6, R8, BK, HBb, HKp, hbS, hbase⟩ := Z.out
      have hgb := HG.out
      obtain ⟨far, hszl, fil, bel, _, _⟩ := AF.out
      have BK2 := (far g hgb).trans BK
      have F := fil _ _ _ R6
      have st : ∀ (x : Value) (k : Nat), k ≠ g → (w2.setCell ⟨g, 5, none⟩ x).heap[k]? = w2.heap[k]? := fun x k hk => Below.heap_setCell _ _ _ k hk
      have F0 := ext_27.move (w1 := w2.setCell ⟨g, 5, none⟩ (.slice (some ⟨b, 0, none⟩) (t5.filter (fun z => !(z == a1))).length cap)) R2 (fun k hk => (st _ k (fun e_ => Kd.R_ne R2 BK (by decide) (by rw [← e_]; exact hk.symm))).trans (far k (fun e_ => (R2.1 k hk).2.2.1 (by rw [e_]; rfl))))
      have F1 := ext_27.move (w1 := w2.setCell ⟨g, 5, none⟩ (.slice (some ⟨b, 0, none⟩) (t5.filter (fun z => !(z == a1))).length cap)) R4 (fun k hk => (st _ k (fun e_ => Kd.R_ne R4 BK (by decide) (by rw [← e_]; exact hk.symm))).trans (far k (fun e_ => (R4.1 k hk).2.2.1 (by rw [e_]; rfl))))
      have F2 := ext_27.move (w1 := w2.setCell ⟨g, 5, none⟩ (.slice (some ⟨b, 0, none⟩) (t5.filter (fun z => !(z == a1))).length cap)) F (fun k hk => st _ k (fun e_ => hgb (by rw [← e_]; exact (Option.some.inj hk).symm)))
      have F3 := ext_27.move (w1 := w2.setCell ⟨g, 5, none⟩ (.slice (some ⟨b, 0, none⟩) (t5.filter (fun z => !(z == a1))).length cap)) R8 (fun k hk => (st _ k (fun e_ => Kd.R_ne R8 BK (by decide) (by rw [← e_]; exact hk.symm))).trans (far k (fun e_ => (R8.1 k hk).2.2.2 (by rw [e_]; rfl))))
      refine ⟨v2, v4, .slice (some ⟨b, 0, none⟩) (t5.filter (fun z => !(z == a1))).length cap, v8, rfl, Kd.R_mono F0 (fun q hq => ⟨UPS.out q hq.1, hq.2⟩), Kd.R_mono F1 (fun q hq => ⟨UPS.out q hq.1, hq.2⟩), Kd.R_mono F2 (fun q hq => ⟨UPS.out q hq.1, hq.2⟩), Kd.R_mono F3 (fun q hq => ⟨UPS.out q hq.1, hq.2⟩), (ext_27.put8 BK2 _).2.2.1, ?_, ?_⟩
      · exact (bel _ _ HBb hbase).setCell HGe.out _
      · refine Kept.setCell (Kept.then_ (S2 := fun k => k = b) HKp ⟨hszl, fun k _ hk => far k hk⟩ (fun k hk => ?_)) (.inl (.inr rfl)) _
        subst hk
        exact (UPS.out k hbS.1).elim (fun z => .inl (.inl z)) (fun z => .inr z)
  rw [if_neg c3] at hg
  by_cases c4 : i = 3
  · rw [if_pos c4] at hg
    subst c4
    have hl : 0 < (t7).length := by
      by_cases hl : 0 < (t7).length
      · exact hl
      · rw [if_neg hl] at hg; cases hg
    rw [if_pos hl] at hg
    simp only [Option.some.injEq, Prod.mk.injEq] at hg
    obtain ⟨rfl, rfl, rfl, rfl, rfl, rfl, rfl, rfl, rfl⟩ := hg
    clear c0
    go_enter Tryd.func27, Tryd.ntmps27
    go_wp2_with fail
    refine W.mono ?_
    rintro e w1 ⟨v2, v4, v6, v8, rfl, R2, R4, R6, R8, BK, HBb, HK⟩
    have hidb := hid w1 HK
    obtain ⟨b, cap, hv, hcap, hsz, hH⟩ := ext_27.opened R8 hl
    subst hv
    have hne : w.heap.size ≠ b := by
      intro e_
      have hb := R8.1 b rfl
      rcases hb.1 with (hs | hs | hs | hs) | hs
      · exact absurd (ext_27.lt ho0_1 _ hs.symm) (by omega)
      · exact absurd (ext_27.lt ho0_3 _ hs.symm) (by omega)
      · exact absurd (ext_27.lt ho0_5 _ hs.symm) (by omega)
      · exact absurd (ext_27.lt ho0_7 _ hs.symm) (by omega)
      · simp at hs; omega
    have hgb : g ≠ b := fun e_ => Kd.R_ne R8 BK (by decide) (by rw [e_]; rfl)
    have hbS := R8.1 b rfl
    have hbase := Kd.R_base R8 b rfl
    have HKp := (Kept.then_ (S := fun k_ => (P0_1_ k_ ∨ P0_3_ k_ ∨ P0_5_ k_ ∨ P0_7_ k_) ∨ k_ = g) ((Kept.refl w _).alloc (.cells #[.int .i64 a1] 3 (0, 0))) HK (fun q hq => .inl (hq.elim (fun z => .inl (z.elim (fun z => .inl (ho0_1.1 q z.symm)) (fun z => .inr (z.elim (fun z => .inl (ho0_3.1 q z.symm)) (fun z => .inr (z.elim (fun z => .inl (ho0_5.1 q z.symm)) (fun z => .inr (ho0_7.1 q z.symm)))))))) (fun z => .inr z))))
    have Z := Aside0.mk (And.intro R2 (And.intro R4 (And.intro R6 (And.intro R8 (And.intro BK (And.intro HBb (And.intro HKp (And.intro hbS hbase))))))))
    have UPS := Aside0.mk (show ∀ q, ((some q = (u9000_ : Value).ownBlock ∨ some q = (u9001_ : Value).ownBlock ∨ some q = (u9002_ : Value).ownBlock ∨ some q = (u9003_ : Value).ownBlock) ∨ (w.alloc (.cells #[.int .i64 a1] 3 (0, 0))).heap.size ≤ q) → ((P0_1_ q ∨ P0_3_ q ∨ P0_5_ q ∨ P0_7_ q) ∨ w.heap.size ≤ q) from fun q hq => hq.elim (fun z => .inl (z.elim (fun z => .inl (ho0_1.1 q z.symm)) (fun z => .inr (z.elim (fun z => .inl (ho0_3.1 q z.symm)) (fun z => .inr (z.elim (fun z => .inl (ho0_5.1 q z.symm)) (fun z => .inr (ho0_7.1 q z.symm)))))))) (fun z => .inr (Nat.le_trans (by simp) z)))
    have HGe := Aside0.mk hG
    have hc0 := Goto.bc0 (Goto.m0 BK); have hc1 := Goto.bc1 (Goto.m0 BK); have hc3 := Goto.bc3 (Goto.m0 BK); have hc5 := Goto.bc5 (Goto.m0 BK); have hc7 := Goto.bc7 (Goto.m0 BK)
    have hf1 := Goto.bf (Goto.m0 BK) 1; have hf3 := Goto.bf (Goto.m0 BK) 3; have hf5 := Goto.bf (Goto.m0 BK) 5; have hf7 := Goto.bf (Goto.m0 BK) 7
    have HID := Aside0.mk hidb; have HH := Aside0.mk hH; have HNE := Aside0.mk hne
    clear R2 R4 R6 R8 BK HBb HK HKp hbS hbase hidb hH hI hG hB ho0_1 ho0_3 ho0_5 ho0_7 hp0_1_0_3 hp0_1_0_5 hp0_1_0_7 hp0_3_0_1 hp0_3_0_5 hp0_3_0_7 hp0_5_0_1 hp0_5_0_3 hp0_5_0_7 hp0_7_0_1 hp0_7_0_3 hp0_7_0_5 hid W hw
    have HG := Aside0.mk hgb
    clear hgb hne
    go_wp2_with fail
    go_region_with (go_at_call 41; (refine (ext_27.deletes a1 w.heap.size b cap t7 _ (by exact HID.out) HNE.out (by exact HH.out) hsz hcap).mono ?_); rintro e w2 ⟨rfl, q, hw2⟩; have AF := Aside0.mk (ext_27.after w1 _ w2 b q cap t7 _ hw2 rfl rfl rfl rfl); have hk1 := (AF.out.2.2.2.2.1 ⟨g, 7, none⟩ HG.out).trans hc7; have hk2 := (AF.out.2.2.2.2.2 ⟨g, 7, none⟩).trans hf7; clear hw2 hc0 hc1 hc3 hc5 hc7 hf1 hf3 hf5 hf7)
    all_goals
      go_wp2
      go_ret
      obtain ⟨R2, R4, R6, R8, BK, HBb, HKp, hbS, hbase⟩ := Z.out
      have hgb := HG.out
      obtain ⟨far, hszl, fil, bel, _, _⟩ := AF.out
      have BK2 := (far g hgb).trans BK
      have F := fil _ _ _ R8
      have st : ∀ (x : Value) (k : Nat), k ≠ g → (w2.setCell ⟨g, 7, none⟩ x).heap[k]? = w2.heap[k]? := fun x k hk => Below.heap_setCell _ _ _ k hk
      have F0 := ext_27.move (w1 := w2.setCell ⟨g, 7, none⟩ (.slice (some ⟨b, 0, none⟩) (t7.filter (fun z => !(z == a1))).length cap)) R2 (fun k hk => (st _ k (fun e_ => Kd.R_ne R2 BK (by decide) (by rw [← e_]; exact hk.symm))).trans (far k (fun e_ => (R2.1 k hk).2.2.2 (by rw [e_]; rfl))))
      have F1 := ext_27.move (w1 := w2.setCell ⟨g, 7, none⟩ (.slice (some ⟨b, 0, none⟩) (t7.filter (fun z => !(z == a1))).length cap)) R4 (fun k hk => (st _ k (fun e_ => Kd.R_ne R4 BK (by decide) (by rw [← e_]; exact hk.symm))).trans (far k (fun e_ => (R4.1 k hk).2.2.2 (by rw [e_]; rfl))))
      have F2 := ext_27.move (w1 := w2.setCell ⟨g, 7, none⟩ (.slice (some ⟨b, 0, none⟩) (t7.filter (fun z => !(z == a1))).length cap)) R6 (fun k hk => (st _ k (fun e_ => Kd.R_ne R6 BK (by decide) (by rw [← e_]; exact hk.symm))).trans (far k (fun e_ => (R6.1 k hk).2.2.2 (by rw [e_]; rfl))))
      have F3 := ext_27.move (w1 := w2.setCell ⟨g, 7, none⟩ (.slice (some ⟨b, 0, none⟩) (t7.filter (fun z => !(z == a1))).length cap)) F (fun k hk => st _ k (fun e_ => hgb (by rw [← e_]; exact (Option.some.inj hk).symm)))
      refine ⟨v2, v4, v6, .slice (some ⟨b, 0, none⟩) (t7.filter (fun z => !(z == a1))).length cap, rfl, Kd.R_mono F0 (fun q hq => ⟨UPS.out q hq.1, hq.2⟩), Kd.R_mono F1 (fun q hq => ⟨UPS.out q hq.1, hq.2⟩), Kd.R_mono F2 (fun q hq => ⟨UPS.out q hq.1, hq.2⟩), Kd.R_mono F3 (fun q hq => ⟨UPS.out q hq.1, hq.2⟩), (ext_27.put8 BK2 _).2.2.2, ?_, ?_⟩
      · exact (bel _ _ HBb hbase).setCell HGe.out _
      · refine Kept.setCell (Kept.then_ (S2 := fun k => k = b) HKp ⟨hszl, fun k _ hk => far k hk⟩ (fun k hk => ?_)) (.inl (.inr rfl)) _
        subst hk
        exact (UPS.out k hbS.1).elim (fun z => .inl (.inl z)) (fun z => .inr z)
  rw [if_neg c4] at hg
  cases hg
end Go.Proofs.YtiejhnijfgdapaaDoor.P
