/- A latch over its contracts: what a call leaves as it was, of whatever else the caller holds. -/
import Derived.Test.YtbhfkhcedjgpdaaLatchR
namespace Go.Proofs.Ytbhfkhcedjgpdaa.P
open Go Go.RowKit Go.Proofs.Ytbhfkhcedjgpdaa.LatchR Go.Proofs.YtbhfkhcedjgpdaaW.PrintWords Go.Proofs.YtbhfkhcedjgpdaaW.PrintLast Go.Proofs.YtbhfkhcedjgpdaaW.PrintMore
/-- The blocks of the latch: its two rows, itself; and of the array that the caller writes. -/
def Own (u v : Value) (g b : Nat) (k : Nat) : Prop := ((some k = u.ownBlock ∨ some k = v.ownBlock) ∨ k = g) ∨ k = b
def LS (w0 w : World) (g b : Nat) (a0 a1 : Int) (A2 : Option Addr) (c2 : Nat) (pl : List (List Int)) (A3 : Option Addr) (c3 : Nat) (dm : List S44) (hp : Int) (hl : List Int) (ap : Int) (al : List Int) (wt : Array Value) (F : World → Prop) : Prop :=
  ∃ u v : Value, w.heap[g]? = some (.cells #[.int .i64 a0, .int .i64 a1, .slice A2 pl.length c2, .slice A3 dm.length c3, .int .i64 hp, u, .int .i64 ap, v] 86 (0, 0)) ∧
    Kd.R (Kd.int .i64) 3 w w0.heap.size (fun k => some k = u.ownBlock) u hl ∧ Kd.R (Kd.int .i64) 3 w w0.heap.size (fun k => some k = v.ownBlock) v al ∧
    (∀ k, some k = u.ownBlock → ¬ some k = v.ownBlock) ∧ w.heap[b]? = some (.cells wt 61 (0, 0)) ∧
    (∀ W_, Kept w W_ (Own u v g b) → F W_ ∧ Kd.C (Kd.slice 3 (Kd.int .i64)) W_ A2 pl.length pl ∧ Kd.C k44 W_ A3 dm.length dm) ∧
    w0.heap.size ≤ g ∧ w0.heap.size ≤ b ∧ Below w0.heap.size w0 w
section
variable {w0 w : World} {g b : Nat} {a0 a1 : Int} {A2 : Option Addr} {c2 : Nat} {pl : List (List Int)} {A3 : Option Addr} {c3 : Nat} {dm : List S44} {hp : Int} {hl : List Int} {ap : Int} {al : List Int} {wt : Array Value} {F : World → Prop}
theorem ne_own {w : World} {base : Nat} {ok : Nat → Prop} {v : Value} {xs : List Int} {cells : Array Value} {b t : Nat} (h : Kd.R (Kd.int .i64) 3 w base ok v xs) (hb : w.heap[b]? = some (.cells cells t (0, 0))) (ht : 3 ≠ t) : ¬ some b = v.ownBlock :=
  Kd.R_ne h hb ht
theorem LS.now (h : LS w0 w g b a0 a1 A2 c2 pl A3 c3 dm hp hl ap al wt F) : F w := by
  obtain ⟨u, v, _, _, _, _, _, hF, _⟩ := h
  exact (hF w (Kept.refl _ _)).1
theorem LS.below (h : LS w0 w g b a0 a1 A2 c2 pl A3 c3 dm hp hl ap al wt F) {w' : World} (hb : Below w.heap.size w w') : LS w0 w' g b a0 a1 A2 c2 pl A3 c3 dm hp hl ap al wt F := by
  obtain ⟨u, v, hg, hu, hv, hd, hw, hF, g0, b0, h0⟩ := h
  refine ⟨u, v, (hb.block g (blk_lt hg)).trans hg, Kd.R_below hu hb, Kd.R_below hv hb, hd, (hb.block b (blk_lt hw)).trans hw, fun W_ hk => hF W_ ((Kept.of_below hb (Own u v g b)).then_ hk (fun k hk => .inl hk)), g0, b0, h0.trans (hb.mono h0.size)⟩
theorem LS.bel (h : LS w0 w g b a0 a1 A2 c2 pl A3 c3 dm hp hl ap al wt F) : Below w0.heap.size w0 w := by
  obtain ⟨u, v, _, _, _, _, _, _, _, _, h⟩ := h
  exact h
theorem LS.arr (h : LS w0 w g b a0 a1 A2 c2 pl A3 c3 dm hp hl ap al wt F) : w.heap[b]? = some (.cells wt 61 (0, 0)) := by
  obtain ⟨u, v, _, _, _, _, h, _⟩ := h
  exact h
/-- A variable of the caller's own. -/
theorem LS.var (h : LS w0 w g b a0 a1 A2 c2 pl A3 c3 dm hp hl ap al wt F) (o : Obj) : LS w0 (w.alloc o) g b a0 a1 A2 c2 pl A3 c3 dm hp hl ap al wt (fun W => F W ∧ W.heap[w.heap.size]? = some o) := by
  have hb : Below w.heap.size w (w.alloc o) := below_alloc (Below.refl _ _) o
  obtain ⟨u, v, hg, hu, hv, hd, hw, hF, g0, b0, h0⟩ := h
  refine ⟨u, v, (hb.block g (blk_lt hg)).trans hg, Kd.R_below hu hb, Kd.R_below hv hb, hd, (hb.block b (blk_lt hw)).trans hw, fun W_ hk => ?_, g0, b0, h0.trans (hb.mono h0.size)⟩
  have h1 := hF W_ ((Kept.of_below hb (Own u v g b)).then_ hk (fun k hk => .inl hk))
  refine ⟨⟨h1.1, blk_kept (blk_new w o) hk ?_⟩, h1.2⟩
  rintro (((e | e) | e) | e)
  · exact absurd (Kd.R_lt hu _ e.symm) (by omega)
  · exact absurd (Kd.R_lt hv _ e.symm) (by omega)
  · exact absurd (blk_lt hg) (by omega)
  · exact absurd (blk_lt hw) (by omega)
theorem LS.imp (h : LS w0 w g b a0 a1 A2 c2 pl A3 c3 dm hp hl ap al wt F) {G : World → Prop} (hi : ∀ W, F W → G W) : LS w0 w g b a0 a1 A2 c2 pl A3 c3 dm hp hl ap al wt G := by
  obtain ⟨u, v, hg, hu, hv, hd, hw, hF, g0, b0, h0⟩ := h
  exact ⟨u, v, hg, hu, hv, hd, hw, fun W_ hk => ⟨hi _ (hF W_ hk).1, (hF W_ hk).2⟩, g0, b0, h0⟩
/-- What the contracts ask, out of what is held. -/
theorem LS.conf {u v : Value} (hF : ∀ W_, Kept w W_ (Own u v g b) → F W_ ∧ Kd.C (Kd.slice 3 (Kd.int .i64)) W_ A2 pl.length pl ∧ Kd.C k44 W_ A3 dm.length dm) : ∀ W_, Kept w W_ (fun k_ => (some k_ = u.ownBlock ∨ some k_ = v.ownBlock) ∨ k_ = g) → Kd.C (Kd.slice 3 (Kd.int .i64)) W_ A2 pl.length pl ∧ Kd.C k44 W_ A3 dm.length dm :=
  fun W_ hk => (hF W_ (hk.mono (fun _ h => .inl h))).2
/-- Behind a call. -/
theorem LS.step {u v u' v' : Value} {w' : World} {hp' ap' : Int} {hl' al' : List Int} {P : Nat → Prop}
    (hu : Kd.R (Kd.int .i64) 3 w w0.heap.size (fun k => some k = u.ownBlock) u hl) (hv : Kd.R (Kd.int .i64) 3 w w0.heap.size (fun k => some k = v.ownBlock) v al)
    (hg : w.heap[g]? = some (.cells #[.int .i64 a0, .int .i64 a1, .slice A2 pl.length c2, .slice A3 dm.length c3, .int .i64 hp, u, .int .i64 ap, v] 86 (0, 0)))
    (hw : w.heap[b]? = some (.cells wt 61 (0, 0)))
    (hF : ∀ W_, Kept w W_ (Own u v g b) → F W_ ∧ Kd.C (Kd.slice 3 (Kd.int .i64)) W_ A2 pl.length pl ∧ Kd.C k44 W_ A3 dm.length dm) (g0 : w0.heap.size ≤ g) (b0 : w0.heap.size ≤ b)
    (ho0 : Kd.R (Kd.int .i64) 3 w' w0.heap.size (fun k_ => ((some k_ = u.ownBlock ∨ some k_ = v.ownBlock) ∨ w.heap.size ≤ k_) ∧ some k_ ≠ v'.ownBlock) u' hl')
    (ho1 : Kd.R (Kd.int .i64) 3 w' w0.heap.size (fun k_ => ((some k_ = u.ownBlock ∨ some k_ = v.ownBlock) ∨ w.heap.size ≤ k_) ∧ P k_) v' al')
    (hi : w'.heap[g]? = some (.cells #[.int .i64 a0, .int .i64 a1, .slice A2 pl.length c2, .slice A3 dm.length c3, .int .i64 hp', u', .int .i64 ap', v'] 86 (0, 0)))
    (hb : Below w0.heap.size w0 w') (hk : Kept w w' (fun k_ => (some k_ = u.ownBlock ∨ some k_ = v.ownBlock) ∨ k_ = g)) :
    LS w0 w' g b a0 a1 A2 c2 pl A3 c3 dm hp' hl' ap' al' wt F := by
  have hbg : b ≠ g := fun e => by
    rw [e, hg] at hw
    simp at hw
  refine ⟨u', v', hi, Kd.R_tight rfl ho0, Kd.R_tight rfl ho1, fun k e1 e2 => (ho0.1 k e1.symm).2 e2, blk_kept hw hk ?_, fun W_ hk' => hF W_ ((hk.mono (fun k h => .inl h)).then_ hk' ?_), g0, b0, hb⟩
  · rintro ((e | e) | e)
    · exact ne_own hu hw (by decide) e
    · exact ne_own hv hw (by decide) e
    · exact hbg e
  · rintro k (((e | e) | e) | e)
    · rcases (ho0.1 k e.symm).1 with h | h
      · exact .inl (.inl (.inl h))
      · exact .inr h
    · rcases (ho1.1 k e.symm).1 with h | h
      · exact .inl (.inl (.inl h))
      · exact .inr h
    · exact .inl (.inl (.inr e))
    · exact .inl (.inr e)
set_option maxHeartbeats 1000000
theorem LS.plan (h : LS w0 w g b a0 a1 A2 c2 pl A3 c3 dm hp hl ap al wt F) (hc2 : pl.length ≤ c2) (hc3 : dm.length ≤ c3) :
    Calls Try.prog 37 #[.pointer (some ⟨g, 0, none⟩)] w fun e w' => e = .returned (.int .i64 hp) ∧ LS w0 w' g b a0 a1 A2 c2 pl A3 c3 dm hp hl ap al wt F := by
  obtain ⟨u, v, hg, hu, hv, hd, hw, hF, g0, b0, h0⟩ := h
  refine (latch_Latch_Plan.calls g a0 a1 A2 c2 pl A3 c3 dm hp (fun k_ => some k_ = u.ownBlock) u hl ap (fun k_ => some k_ = v.ownBlock) v al hp hp hl ap al w0 w hg g0 h0 (fun W_ hk => (LS.conf hF W_ hk).1) hc2 (fun W_ hk => (LS.conf hF W_ hk).2) hc3 hu hd hv (fun k e1 e2 => hd k e2 e1) (plan_f a0 a1 pl dm hp hl ap al)).mono ?_
  rintro e w' ⟨u', v', rfl, ho0, ho1, hi, hb, hk⟩
  exact ⟨rfl, LS.step hu hv hg hw hF g0 b0 ho0 ho1 hi hb hk⟩
theorem LS.turn (h : LS w0 w g b a0 a1 A2 c2 pl A3 c3 dm hp hl ap al wt F) (hc2 : pl.length ≤ c2) (hc3 : dm.length ≤ c3) (hle : hl.length = al.length) (h50 : al.length ≤ 10) :
    Calls Try.prog 40 #[.pointer (some ⟨g, 0, none⟩)] w fun e w' => e = .returned (.tuple #[]) ∧ LS w0 w' g b a0 a1 A2 c2 pl A3 c3 dm ap al ap al wt F := by
  obtain ⟨u, v, hg, hu, hv, hd, hw, hF, g0, b0, h0⟩ := h
  refine (latch_Latch_Turn.calls 50 g a0 a1 A2 c2 pl A3 c3 dm hp (fun k_ => some k_ = u.ownBlock) u hl ap (fun k_ => some k_ = v.ownBlock) v al ap al ap al w0 w hg g0 h0 (fun W_ hk => (LS.conf hF W_ hk).1) hc2 (fun W_ hk => (LS.conf hF W_ hk).2) hc3 hu hd hv (fun k e1 e2 => hd k e2 e1) (turn_f a0 a1 pl dm hp hl ap al hle (by omega) 50 (by omega))).mono ?_
  rintro e w' ⟨u', v', rfl, ho0, ho1, hi, hb, hk⟩
  exact ⟨rfl, LS.step hu hv hg hw hF g0 b0 ho0 ho1 hi hb hk⟩
theorem LS.askPlan (h : LS w0 w g b a0 a1 A2 c2 pl A3 c3 dm hp hl ap al wt F) (hc2 : pl.length ≤ c2) (hc3 : dm.length ≤ c3) (i : Int) :
    Calls Try.prog 38 #[.pointer (some ⟨g, 0, none⟩), .int .i64 i] w fun e w' => e = .returned (errW (askP pl ap i).1) ∧ LS w0 w' g b a0 a1 A2 c2 pl A3 c3 dm hp hl (askP pl ap i).2 al wt F := by
  obtain ⟨u, v, hg, hu, hv, hd, hw, hF, g0, b0, h0⟩ := h
  refine (latch_Latch_AskPlan.calls g a0 a1 A2 c2 pl A3 c3 dm hp (fun k_ => some k_ = u.ownBlock) u hl ap (fun k_ => some k_ = v.ownBlock) v al i _ hp hl _ al w0 w hg g0 h0 (fun W_ hk => (LS.conf hF W_ hk).1) hc2 (fun W_ hk => (LS.conf hF W_ hk).2) hc3 hu hd hv (fun k e1 e2 => hd k e2 e1) (askPlan_f a0 a1 pl dm hp hl ap al i)).mono ?_
  rintro e w' ⟨u', v', rfl, ho0, ho1, hi, hb, hk⟩
  exact ⟨rfl, LS.step hu hv hg hw hF g0 b0 ho0 ho1 hi hb hk⟩
theorem LS.askLevel (h : LS w0 w g b a0 a1 A2 c2 pl A3 c3 dm hp hl ap al wt F) (hc2 : pl.length ≤ c2) (hc3 : dm.length ≤ c3) (hal : al.length = dm.length) (d i : Int) :
    Calls Try.prog 39 #[.pointer (some ⟨g, 0, none⟩), .int .i64 d, .int .i64 i] w fun e w' => e = .returned (errW (askL dm al d i).1) ∧ LS w0 w' g b a0 a1 A2 c2 pl A3 c3 dm hp hl ap (askL dm al d i).2 wt F := by
  obtain ⟨u, v, hg, hu, hv, hd, hw, hF, g0, b0, h0⟩ := h
  refine (latch_Latch_AskLevel.calls 1 g a0 a1 A2 c2 pl A3 c3 dm hp (fun k_ => some k_ = u.ownBlock) u hl ap (fun k_ => some k_ = v.ownBlock) v al d i _ hp hl ap _ w0 w hg g0 h0 (fun W_ hk => (LS.conf hF W_ hk).1) hc2 (fun W_ hk => (LS.conf hF W_ hk).2) hc3 hu hd hv (fun k e1 e2 => hd k e2 e1) (askLevel_f a0 a1 pl dm hp hl ap al hal d i 0)).mono ?_
  rintro e w' ⟨u', v', rfl, ho0, ho1, hi, hb, hk⟩
  exact ⟨rfl, LS.step hu hv hg hw hF g0 b0 ho0 ho1 hi hb hk⟩
theorem LS.levels (h : LS w0 w g b a0 a1 A2 c2 pl A3 c3 dm hp hl ap al wt F) (hc2 : pl.length ≤ c2) (hc3 : dm.length ≤ c3) (h50 : hl.length ≤ 10) :
    Calls Try.prog 36 #[.pointer (some ⟨g, 0, none⟩)] w fun e w' => ∃ A c, e = .returned (.slice A hl.length c) ∧ hl.length ≤ c ∧ LS w0 w' g b a0 a1 A2 c2 pl A3 c3 dm hp hl ap al wt (fun W => F W ∧ Kd.C (Kd.int .i64) W A hl.length hl) := by
  obtain ⟨u, v, hg, hu, hv, hd, hw, hF, g0, b0, h0⟩ := h
  refine (latch_Latch_Levels.calls g a0 a1 A2 c2 pl A3 c3 dm hp (fun k_ => some k_ = u.ownBlock) u hl ap (fun k_ => some k_ = v.ownBlock) v al hl hp hl ap al w0 w hg g0 h0 (fun W_ hk => (LS.conf hF W_ hk).1) hc2 (fun W_ hk => (LS.conf hF W_ hk).2) hc3 hu hd hv (fun k e1 e2 => hd k e2 e1) (levels_f a0 a1 pl dm hp hl ap al (by omega))).mono ?_
  rintro e w' ⟨z, u', v', rfl, hz, ho0, ho1, hi, hb, hk⟩
  obtain ⟨A, c, rfl, hc, _⟩ := Kd.R_reads hz
  have hs := LS.step hu hv hg hw hF g0 b0 (Kd.R_mono ho0 (fun k h => ⟨h.1, h.2.2⟩)) ho1 hi hb hk
  refine ⟨A, c, rfl, hc, ?_⟩
  have hbg : b ≠ g := fun e => by
    rw [e, hg] at hw
    simp at hw
  have hw' : w'.heap[b]? = some (.cells wt 61 (0, 0)) := by
    refine blk_kept hw hk ?_
    rintro ((e | e) | e)
    · exact ne_own hu hw (by decide) e
    · exact ne_own hv hw (by decide) e
    · exact hbg e
  refine ⟨u', v', hi, Kd.R_tight rfl ho0, Kd.R_tight rfl ho1, fun k e1 e2 => (ho0.1 k e1.symm).2.2 e2, hw', fun W_ hk' => ?_, g0, b0, hb⟩
  have hh := hF W_ ((hk.mono (fun k h => Or.inl h)).then_ hk' (by
    rintro k (((e | e) | e) | e)
    · rcases (ho0.1 k e.symm).1 with h | h
      · exact .inl (.inl (.inl h))
      · exact .inr h
    · rcases (ho1.1 k e.symm).1 with h | h
      · exact .inl (.inl (.inl h))
      · exact .inr h
    · exact .inl (.inl (.inr e))
    · exact .inl (.inr e)))
  refine ⟨⟨hh.1, ?_⟩, hh.2⟩
  refine Kd.C_kept_own (Kd.R_types (Kd.R_types hz hi (by decide)) hw' (by decide)) ?_ W_ hk'
  rintro k ⟨⟨⟨_, n1, n2⟩, n3⟩, n4⟩ (((e | e) | e) | e)
  · exact n1 e
  · exact n2 e
  · exact n3 e
  · exact n4 e
/-- A store into the caller's array. -/
theorem LS.put (h : LS w0 w g b a0 a1 A2 c2 pl A3 c3 dm hp hl ap al wt F) (j : Nat) (x : Value) : LS w0 (w.setCell ⟨b, j, none⟩ x) g b a0 a1 A2 c2 pl A3 c3 dm hp hl ap al (wt.setIfInBounds j x) F := by
  obtain ⟨u, v, hg, hu, hv, hd, hw, hF, g0, b0, h0⟩ := h
  have hbg : g ≠ b := fun e => by
    rw [← e, hg] at hw
    simp at hw
  refine ⟨u, v, blk_far hg hbg _, Kd.R_far hu (p := ⟨b, j, none⟩) (fun k e e2 => ne_own hu hw (by decide) (by rw [← (show k = b from e2)]; exact e)) _, Kd.R_far hv (p := ⟨b, j, none⟩) (fun k e e2 => ne_own hv hw (by decide) (by rw [← (show k = b from e2)]; exact e)) _, hd, blk_set hw j x, fun W_ hk => hF W_ ((Kept.setCell (Kept.refl w (Own u v g b)) (p := ⟨b, j, none⟩) (.inl (.inr rfl)) x).then_ hk (fun k h => .inl h)), g0, b0, below_set h0 b0⟩
/-- A new latch, of a configuration that was made before, and a new array. -/
theorem LS.start {wB wN : World} (hbB : Below w0.heap.size w0 wB) {ok2 ok3 : Nat → Prop} {base2 base3 e2 e3 : Nat} {u v : Value} {ok5 : Nat → Prop}
    (h2 : Kd.N (Kd.slice 3 (Kd.int .i64)) e2 wB base2 ok2 (.slice A2 pl.length c2) pl) (h3 : Kd.N k44 e3 wB base3 ok3 (.slice A3 dm.length c3) dm)
    (hu : Kd.R (Kd.int .i64) 3 wN wB.heap.size (fun k => some k ≠ v.ownBlock) u hl) (hv : Kd.R (Kd.int .i64) 3 wN wB.heap.size ok5 v al)
    (hg : wN.heap[g]? = some (.cells #[.int .i64 a0, .int .i64 a1, .slice A2 pl.length c2, .slice A3 dm.length c3, .int .i64 hp, u, .int .i64 ap, v] 86 (0, 0)))
    (g0 : wB.heap.size ≤ g) (hbN : Below wB.heap.size wB wN) (wt : Array Value) :
    LS w0 (wN.alloc (.cells wt 61)) g wN.heap.size a0 a1 A2 c2 pl A3 c3 dm hp hl ap al wt (fun _ => True) := by
  have hbA : Below wB.heap.size wB (wN.alloc (.cells wt 61)) := hbN.alloc hbN.size _
  have h00 := below_size hbB
  refine ⟨u, v, blk_alloc hg _, Kd.R_tight rfl (Kd.R_lower (Kd.R_alloc hu _) h00), Kd.R_tight rfl (Kd.R_lower (Kd.R_alloc hv _) h00), fun k e1 e2 => hu.1 k e1.symm e2, blk_new _ _, fun W_ hk => ⟨trivial, ?_, ?_⟩, Nat.le_trans h00 g0, Nat.le_trans h00 hbN.size, hbB.trans (hbA.mono h00)⟩
  · refine Kd.C_kept_ownV (base := 0) (Kd.N_V (Kd.N_old h2 hbA)) ?_ W_ hk
    rintro k ⟨_, hlt⟩ (((e | e) | e) | e)
    · exact absurd (Kd.R_base hu k e.symm) (by omega)
    · exact absurd (Kd.R_base hv k e.symm) (by omega)
    · omega
    · have := hbN.size; omega
  · refine Kd.C_kept_ownV (base := 0) (Kd.N_V (Kd.N_old h3 hbA)) ?_ W_ hk
    rintro k ⟨_, hlt⟩ (((e | e) | e) | e)
    · exact absurd (Kd.R_base hu k e.symm) (by omega)
    · exact absurd (Kd.R_base hv k e.symm) (by omega)
    · omega
    · have := hbN.size; omega
end
end Go.Proofs.Ytbhfkhcedjgpdaa.P
