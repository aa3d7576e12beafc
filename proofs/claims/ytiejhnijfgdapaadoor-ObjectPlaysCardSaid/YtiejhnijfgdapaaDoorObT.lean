/- The objects and the reference's objects, side by side: each call leaves the other as it was. -/
import Derived.Test.YtiejhnijfgdapaaDoorObS
import Derived.Test.YtiejhnijfgdapaaDoorSig
import Derived.Test.YtiejhnijfgdapaaDoorObjQ
namespace Go.Proofs.YtiejhnijfgdapaaDoor.P
open Go Go.RowKit Go.Proofs.YtiejhnijfgdapaaDoor.ObjR Go.Proofs.YtiejhnijfgdapaaDoor.ObjQ Go.Proofs.YtiejhnijfgdapaaDoorW.PrintWords Go.Proofs.YtiejhnijfgdapaaDoorW.PrintLast Go.Proofs.YtiejhnijfgdapaaDoorW.PrintMore
set_option linter.unusedVariables false
abbrev OS (w0 w : World) (g : Nat) (S : Nat → Prop) (t : St) : Prop := OSt w0 w g S t.1 t.2.1 t.2.2.1 t.2.2.2.1 t.2.2.2.2.1 t.2.2.2.2.2.1 t.2.2.2.2.2.2.1 t.2.2.2.2.2.2.2
abbrev QS (w0 w : World) (q : Nat) (T : Nat → Prop) (t : St) : Prop := QSt w0 w q T t.1 t.2.1 t.2.2.1 t.2.2.2.1 t.2.2.2.2.1 t.2.2.2.2.2.1 t.2.2.2.2.2.2.1 t.2.2.2.2.2.2.2
def JS (w0 w : World) (g q : Nat) (t u : St) : Prop := ∃ S T : Nat → Prop, OS w0 w g S t ∧ QS w0 w q T u ∧ ∀ k, S k → ¬ T k
section
variable {w0 w w' : World} {g q : Nat} {t u t' u' : St} {S T S' T' : Nat → Prop}
theorem JS.bel (h : JS w0 w g q t u) : Below w0.heap.size w0 w := by
  obtain ⟨_, _, h, _⟩ := h
  exact OSt.bel h
variable {b_ : Nat} {cs : Array Value}
def JF (w0 w : World) (g q : Nat) (b_ : Nat) (cs : Array Value) (t u : St) : Prop := ∃ S T : Nat → Prop, OS w0 w g S t ∧ QS w0 w q T u ∧ (∀ k, S k → ¬ T k) ∧ w.heap[b_]? = some (.cells cs 57 (0, 0)) ∧ ¬ S b_ ∧ ¬ T b_
theorem JF.js (h : JF w0 w g q b_ cs t u) : JS w0 w g q t u := by
  obtain ⟨S, T, hO, hQ, hd, _⟩ := h
  exact ⟨S, T, hO, hQ, hd⟩
theorem JF.bel (h : JF w0 w g q b_ cs t u) : Below w0.heap.size w0 w := h.js.bel
theorem JF.blk (h : JF w0 w g q b_ cs t u) : w.heap[b_]? = some (.cells cs 57 (0, 0)) := by
  obtain ⟨S, T, hO, hQ, hd, hF, _⟩ := h
  exact hF
theorem JF.below (h : JF w0 w g q b_ cs t u) (hb : Below w.heap.size w w') : JF w0 w' g q b_ cs t u := by
  obtain ⟨S, T, hO, hQ, hd, hF, hx⟩ := h
  exact ⟨S, T, OSt.below hO hb, QSt.below hQ hb, hd, (hb.block b_ (blk_lt hF)).trans hF, hx⟩
theorem JS.var (h : JS w0 w g q t u) (cs : Array Value) : JF w0 (w.alloc (.cells cs 57)) g q w.heap.size cs t u := by
  obtain ⟨S, T, hO, hQ, hd⟩ := h
  have hba : Below w.heap.size w (w.alloc (.cells cs 57)) := (Below.refl w.heap.size w).alloc (Nat.le_refl _) _
  exact ⟨S, T, OSt.below hO hba, QSt.below hQ hba, hd, blk_new _ _, fun h => absurd (OSt.lt hO _ h) (Nat.lt_irrefl _), fun h => absurd (QSt.lt hQ _ h) (Nat.lt_irrefl _)⟩
theorem JF.ofO (hO : OS w0 w g S t) (hQ : QS w0 w q T u) (hd : ∀ k, S k → ¬ T k) (hF : w.heap[b_]? = some (.cells cs 57 (0, 0)) ∧ ¬ S b_ ∧ ¬ T b_) (hn : (∃ S', OS w0 w' g S' t' ∧ ∀ k, S' k → S k ∨ w.heap.size ≤ k) ∧ Kept w w' S) : JF w0 w' g q b_ cs t' u := by
  obtain ⟨⟨S', hO', hs⟩, hk⟩ := hn
  exact ⟨S', T, hO', QSt.kept hQ hk (fun k hT hS => hd k hS hT) (OSt.bel hO'), fun k hS hT => (hs k hS).elim (fun h => hd k h hT) (fun h => absurd (QSt.lt hQ k hT) (by omega)), blk_kept hF.1 hk hF.2.1, fun h => (hs _ h).elim hF.2.1 (fun h => absurd (blk_lt hF.1) (by omega)), hF.2.2⟩
theorem JF.ofQ (hO : OS w0 w g S t) (hQ : QS w0 w q T u) (hd : ∀ k, S k → ¬ T k) (hF : w.heap[b_]? = some (.cells cs 57 (0, 0)) ∧ ¬ S b_ ∧ ¬ T b_) (hn : (∃ T', QS w0 w' q T' u' ∧ ∀ k, T' k → T k ∨ w.heap.size ≤ k) ∧ Kept w w' T) : JF w0 w' g q b_ cs t u' := by
  obtain ⟨⟨T', hQ', hs⟩, hk⟩ := hn
  exact ⟨S, T', OSt.kept hO hk hd (QSt.bel hQ'), hQ', fun k hS hT => (hs k hT).elim (fun h => hd k hS h) (fun h => absurd (OSt.lt hO k hS) (by omega)), blk_kept hF.1 hk hF.2.2, hF.2.1, fun h => (hs _ h).elim hF.2.2 (fun h => absurd (blk_lt hF.1) (by omega))⟩
theorem JF.owait (h : JF w0 w g q b_ cs t u) (k : Nat) (id n : Int) {b : Bool} {er : Option Int} {t' : St} (hf : object_Objects_Wait.f k t.1 t.2.1 t.2.2.1 t.2.2.2.1 t.2.2.2.2.1 t.2.2.2.2.2.1 t.2.2.2.2.2.2.1 t.2.2.2.2.2.2.2 id n = some (b, er, t')) :
    Calls Tryd.prog 22 #[.pointer (some ⟨g, 0, none⟩), .int .i64 id, .int .i64 n] w fun e w' => e = .returned (.tuple #[.bool b, errW er]) ∧ JF w0 w' g q b_ cs t' u := by
  obtain ⟨S, T, hO, hQ, hd, hF⟩ := h
  refine (OSt.wait hO k id n b er hf).mono ?_
  rintro e w' ⟨rfl, hn⟩
  exact ⟨rfl, JF.ofO hO hQ hd hF hn⟩
theorem JF.osignal (h : JF w0 w g q b_ cs t u) (n : Int) {x : Int} {b : Bool} {er : Option Int} {t' : St} (hf : object_Objects_Signal.f t.1 t.2.1 t.2.2.1 t.2.2.2.1 t.2.2.2.2.1 t.2.2.2.2.2.1 t.2.2.2.2.2.2.1 t.2.2.2.2.2.2.2 n = some (x, b, er, t')) :
    Calls Tryd.prog 25 #[.pointer (some ⟨g, 0, none⟩), .int .i64 n] w fun e w' => e = .returned (.tuple #[.int .i64 x, .bool b, errW er]) ∧ JF w0 w' g q b_ cs t' u := by
  obtain ⟨S, T, hO, hQ, hd, hF⟩ := h
  refine (OSt.signal hO n x b er hf).mono ?_
  rintro e w' ⟨rfl, hn⟩
  exact ⟨rfl, JF.ofO hO hQ hd hF hn⟩
theorem JF.odrop (h : JF w0 w g q b_ cs t u) (k : Nat) (id : Int) {b : Bool} {t' : St} (hf : ext_27.f k t.1 t.2.1 t.2.2.1 t.2.2.2.1 t.2.2.2.2.1 t.2.2.2.2.2.1 t.2.2.2.2.2.2.1 t.2.2.2.2.2.2.2 id = some (b, t')) :
    Calls Tryd.prog 27 #[.pointer (some ⟨g, 0, none⟩), .int .i64 id] w fun e w' => e = .returned (.bool b) ∧ JF w0 w' g q b_ cs t' u := by
  obtain ⟨S, T, hO, hQ, hd, hF⟩ := h
  refine (OSt.drop hO k id b hf).mono ?_
  rintro e w' ⟨rfl, hn⟩
  exact ⟨rfl, JF.ofO hO hQ hd hF hn⟩
theorem JF.ocount (h : JF w0 w g q b_ cs t u) (n : Int) {x : Int} (hf : object_Objects_Count.f t.1 t.2.1 t.2.2.1 t.2.2.2.1 t.2.2.2.2.1 t.2.2.2.2.2.1 t.2.2.2.2.2.2.1 t.2.2.2.2.2.2.2 n = some (x, t)) :
    Calls Tryd.prog 29 #[.pointer (some ⟨g, 0, none⟩), .int .i64 n] w fun e w' => e = .returned (.int .i64 x) ∧ JF w0 w' g q b_ cs t u := by
  obtain ⟨S, T, hO, hQ, hd, hF⟩ := h
  refine (OSt.count hO n x hf).mono ?_
  rintro e w' ⟨rfl, hn⟩
  exact ⟨rfl, JF.ofO hO hQ hd hF hn⟩
theorem JF.orow (h : JF w0 w g q b_ cs t u) (n : Int) {r : List Int} (hf : object_Objects_Row.f t.1 t.2.1 t.2.2.1 t.2.2.2.1 t.2.2.2.2.1 t.2.2.2.2.2.1 t.2.2.2.2.2.2.1 t.2.2.2.2.2.2.2 n = some (r, t)) :
    Calls Tryd.prog 30 #[.pointer (some ⟨g, 0, none⟩), .int .i64 n] w fun e w' => ∃ A c, e = .returned (.slice A r.length c) ∧ r.length ≤ c ∧ Kd.C (Kd.int .i64) w' A r.length r ∧ JF w0 w' g q b_ cs t u := by
  obtain ⟨S, T, hO, hQ, hd, hF⟩ := h
  refine (OSt.row hO n r hf).mono ?_
  rintro e w' ⟨A, c, rfl, hc, hC, hn⟩
  exact ⟨A, c, rfl, hc, hC, JF.ofO hO hQ hd hF hn⟩
theorem JF.rwait (h : JF w0 w g q b_ cs t u) (k : Nat) (id n : Int) {b : Bool} {x : Int} {u' : St} (hf : tontineref8_Objects_Wait.f k u.1 u.2.2.1 u.2.2.2.2.1 u.2.2.2.2.2.2.1 u.2.1 u.2.2.2.1 u.2.2.2.2.2.1 u.2.2.2.2.2.2.2 id n = some (b, x, toQ u')) :
    Calls Tryd.prog 23 #[.pointer (some ⟨q, 0, none⟩), .int .i64 id, .int .i64 n] w fun e w' => e = .returned (.tuple #[.bool b, .int .i64 x]) ∧ JF w0 w' g q b_ cs t u' := by
  obtain ⟨S, T, hO, hQ, hd, hF⟩ := h
  refine (QSt.wait hQ k id n b x hf).mono ?_
  rintro e w' ⟨rfl, hn⟩
  exact ⟨rfl, JF.ofQ hO hQ hd hF hn⟩
theorem JF.rdrop (h : JF w0 w g q b_ cs t u) (k : Nat) (id : Int) {b : Bool} {u' : St} (hf : tontineref8_Objects_Drop.f k u.1 u.2.2.1 u.2.2.2.2.1 u.2.2.2.2.2.2.1 u.2.1 u.2.2.2.1 u.2.2.2.2.2.1 u.2.2.2.2.2.2.2 id = some (b, toQ u')) :
    Calls Tryd.prog 28 #[.pointer (some ⟨q, 0, none⟩), .int .i64 id] w fun e w' => e = .returned (.bool b) ∧ JF w0 w' g q b_ cs t u' := by
  obtain ⟨S, T, hO, hQ, hd, hF⟩ := h
  refine (QSt.drop hQ k id b hf).mono ?_
  rintro e w' ⟨rfl, hn⟩
  exact ⟨rfl, JF.ofQ hO hQ hd hF hn⟩
theorem mn_min (a : Int) : mn a 255 = min a 255 := by
  unfold mn
  split <;> omega
theorem JF.rsig_out (h : JF w0 w g q b_ cs t u) (n : Int) (hn : ¬ (0 ≤ n ∧ n < 4)) :
    Calls Tryd.prog 26 #[.pointer (some ⟨q, 0, none⟩), .int .i64 n] w fun e w' => e = .returned (.tuple #[.int .i64 0, .bool false, .int .i64 10]) ∧ JF w0 w' g q b_ cs t u := by
  obtain ⟨S, T, hO, hQ, hd, hF⟩ := h
  refine (QSt.sig_no hQ n (by omega)).mono ?_
  rintro e w' ⟨rfl, hn⟩
  exact ⟨rfl, JF.ofQ hO hQ hd hF hn⟩
theorem JF.rsig (h : JF w0 w g q b_ cs t u) (n : Nat) (hn : n < 4) :
    Calls Tryd.prog 26 #[.pointer (some ⟨q, 0, none⟩), .int .i64 (n : Int)] w fun e w' => e = .returned (.tuple #[.int .i64 (signalS u n).1, .bool (signalS u n).2.1, .int .i64 0]) ∧ JF w0 w' g q b_ cs t (signalS u n).2.2.2 := by
  obtain ⟨S, T, hO, hQ, hd, hF⟩ := h
  unfold signalS
  rcases lt4 hn with rfl | rfl | rfl | rfl
  · rcases hr : row u 0 with _ | ⟨x, l⟩
    · refine (QSt.sige0 hQ hr).mono ?_
      rintro e w' ⟨rfl, hn⟩
      rw [← mn_min] at hn
      exact ⟨rfl, JF.ofQ (u' := setC u 0 (mn (wrap64 (cnt u 0 + 1)) 255)) hO hQ hd hF hn⟩
    · refine (QSt.sig0 hQ x l hr).mono ?_
      rintro e w' ⟨rfl, hn⟩
      exact ⟨rfl, JF.ofQ (u' := setR u 0 l) hO hQ hd hF hn⟩
  · rcases hr : row u 1 with _ | ⟨x, l⟩
    · refine (QSt.sige1 hQ hr).mono ?_
      rintro e w' ⟨rfl, hn⟩
      rw [← mn_min] at hn
      exact ⟨rfl, JF.ofQ (u' := setC u 1 (mn (wrap64 (cnt u 1 + 1)) 255)) hO hQ hd hF hn⟩
    · refine (QSt.sig1 hQ x l hr).mono ?_
      rintro e w' ⟨rfl, hn⟩
      exact ⟨rfl, JF.ofQ (u' := setR u 1 l) hO hQ hd hF hn⟩
  · rcases hr : row u 2 with _ | ⟨x, l⟩
    · refine (QSt.sige2 hQ hr).mono ?_
      rintro e w' ⟨rfl, hn⟩
      rw [← mn_min] at hn
      exact ⟨rfl, JF.ofQ (u' := setC u 2 (mn (wrap64 (cnt u 2 + 1)) 255)) hO hQ hd hF hn⟩
    · refine (QSt.sig2 hQ x l hr).mono ?_
      rintro e w' ⟨rfl, hn⟩
      exact ⟨rfl, JF.ofQ (u' := setR u 2 l) hO hQ hd hF hn⟩
  · rcases hr : row u 3 with _ | ⟨x, l⟩
    · refine (QSt.sige3 hQ hr).mono ?_
      rintro e w' ⟨rfl, hn⟩
      rw [← mn_min] at hn
      exact ⟨rfl, JF.ofQ (u' := setC u 3 (mn (wrap64 (cnt u 3 + 1)) 255)) hO hQ hd hF hn⟩
    · refine (QSt.sig3 hQ x l hr).mono ?_
      rintro e w' ⟨rfl, hn⟩
      exact ⟨rfl, JF.ofQ (u' := setR u 3 l) hO hQ hd hF hn⟩
def st0 : St := (0, [], 0, [], 0, [], 0, [])
/-- New objects, and the reference's, all zero, behind them. -/
theorem JS.start {w1 w2 : World} (hb1 : Below w0.heap.size w0 w1) {v1 v3 v5 v7 : Value}
    (h1 : Kd.R (Kd.int .i64) 3 w2 w1.heap.size (fun k_ => some k_ ≠ v3.ownBlock ∧ some k_ ≠ v5.ownBlock ∧ some k_ ≠ v7.ownBlock) v1 []) (h3 : Kd.R (Kd.int .i64) 3 w2 w1.heap.size (fun k_ => some k_ ≠ v1.ownBlock ∧ some k_ ≠ v5.ownBlock ∧ some k_ ≠ v7.ownBlock) v3 [])
    (h5 : Kd.R (Kd.int .i64) 3 w2 w1.heap.size (fun k_ => some k_ ≠ v1.ownBlock ∧ some k_ ≠ v3.ownBlock ∧ some k_ ≠ v7.ownBlock) v5 []) (h7 : Kd.R (Kd.int .i64) 3 w2 w1.heap.size (fun k_ => some k_ ≠ v1.ownBlock ∧ some k_ ≠ v3.ownBlock ∧ some k_ ≠ v5.ownBlock) v7 [])
    (hg : w2.heap[g]? = some (.cells #[.int .i64 0, v1, .int .i64 0, v3, .int .i64 0, v5, .int .i64 0, v7] 86 (0, 0))) (g0 : w1.heap.size ≤ g) (hb2 : Below w1.heap.size w1 w2) :
    JS w0 (w2.alloc (.cells #[.int .i64 0, .int .i64 0, .int .i64 0, .int .i64 0, .slice none 0 0, .slice none 0 0, .slice none 0 0, .slice none 0 0] 55)) g w2.heap.size st0 st0 := by
  have l0 := below_size hb1
  have hb : Below w0.heap.size w0 w2 := hb1.trans (hb2.mono l0)
  have hO : OS w0 w2 g (fun k => own4 v1 v3 v5 v7 k ∨ k = g) st0 := ⟨v1, v3, v5, v7, hg, fun _ => Iff.rfl, ⟨Kd.R_tight rfl (Kd.R_lower h1 l0), Kd.R_tight rfl (Kd.R_lower h3 l0), Kd.R_tight rfl (Kd.R_lower h5 l0), Kd.R_tight rfl (Kd.R_lower h7 l0)⟩,
    ⟨fun k e f => (h1.1 k e.symm).1 f, fun k e f => (h1.1 k e.symm).2.1 f, fun k e f => (h1.1 k e.symm).2.2 f, fun k e f => (h3.1 k e.symm).2.1 f, fun k e f => (h3.1 k e.symm).2.2 f, fun k e f => (h5.1 k e.symm).2.2 f⟩, Nat.le_trans l0 g0, hb⟩
  have hba : Below w2.heap.size w2 (w2.alloc (.cells #[.int .i64 0, .int .i64 0, .int .i64 0, .int .i64 0, .slice none 0 0, .slice none 0 0, .slice none 0 0, .slice none 0 0] 55)) := (Below.refl w2.heap.size w2).alloc (Nat.le_refl _) _
  have no : ∀ k, ¬ own (.slice none 0 0) k := fun k e => by cases e
  refine ⟨_, fun k => own4 (.slice none 0 0) (.slice none 0 0) (.slice none 0 0) (.slice none 0 0) k ∨ k = w2.heap.size, OSt.below hO hba, ⟨.slice none 0 0, .slice none 0 0, .slice none 0 0, .slice none 0 0, blk_new _ _, fun _ => Iff.rfl, ⟨Kd.Q_nil _ _ _ _ _, Kd.Q_nil _ _ _ _ _, Kd.Q_nil _ _ _ _ _, Kd.Q_nil _ _ _ _ _⟩,
    ⟨fun k e _ => no k e, fun k e _ => no k e, fun k e _ => no k e, fun k e _ => no k e, fun k e _ => no k e, fun k e _ => no k e⟩, below_size hb, hb.trans (hba.mono (below_size hb))⟩, ?_⟩
  rintro k hS ((e | e | e | e) | e)
  · exact no k e
  · exact no k e
  · exact no k e
  · exact no k e
  · have := OSt.lt hO k hS
    omega
end
end Go.Proofs.YtiejhnijfgdapaaDoor.P
