/- Both sides' calls side by side, told once: what comes back is the same, the states stay the same. -/
import Derived.Test.YtiejhnijfgdapaaDoorObT
import Derived.Test.YtiejhnijfgdapaaDoorCode
namespace Go.Proofs.YtiejhnijfgdapaaDoor.P
open Go Go.RowKit Go.Proofs.YtiejhnijfgdapaaDoor.ObjR Go.Proofs.YtiejhnijfgdapaaDoor.ObjQ Go.Proofs.YtiejhnijfgdapaaDoorW.PrintWords Go.Proofs.YtiejhnijfgdapaaDoorW.PrintLast Go.Proofs.YtiejhnijfgdapaaDoorW.PrintMore
set_option linter.unusedVariables false
theorem code_f (er : Option Int) : ext_24.f er = some (er.elim 0 (fun x => x)) := by cases er <;> rfl
def LD (w : World) : Prop := w.cell? ⟨0, 0, none⟩ = some (.iface 108 (.agg #[.pointer (some ⟨1, 43, none⟩)]))
theorem LD.below {w0 w : World} (h : LD w0) (hb : Below w0.heap.size w0 w) : LD w := (hb.cell (World.block_lt_of_cell? _ _ h)).trans h
variable {w0 w w' : World} {g q i b_ : Nat} {t u : St} {cs : Array Value}
theorem JF.parts {S T : Nat → Prop} {t' : St} (hO : OS w0 w g S t) (hQ : QS w0 w q T u) (hd : ∀ k, S k → ¬ T k) (hF : w.heap[b_]? = some (.cells cs 57 (0, 0)) ∧ ¬ S b_ ∧ ¬ T b_) (hn : (∃ S', OS w0 w' g S' t' ∧ ∀ k, S' k → S k ∨ w.heap.size ≤ k) ∧ Kept w w' S) : ∃ S', OS w0 w' g S' t' ∧ QS w0 w' q T u ∧ (∀ k, S' k → ¬ T k) ∧ w'.heap[b_]? = some (.cells cs 57 (0, 0)) ∧ ¬ S' b_ ∧ ¬ T b_ := by
  obtain ⟨⟨S', hO', hs⟩, hk⟩ := hn
  exact ⟨S', hO', QSt.kept hQ hk (fun k hT hS => hd k hS hT) (OSt.bel hO'), fun k hS hT => (hs k hS).elim (fun h => hd k h hT) (fun h => absurd (QSt.lt hQ k hT) (by omega)), blk_kept hF.1 hk hF.2.1, fun h => (hs _ h).elim hF.2.1 (fun h => absurd (blk_lt hF.1) (by omega)), hF.2.2⟩
theorem JF.code (hld : LD w0) (h : JF w0 w g q b_ cs t u) (er : Option Int) :
    Calls Tryd.prog 24 #[errW er] w fun e w' => e = .returned (.int .i64 (er.elim 0 (fun x => x))) ∧ JF w0 w' g q b_ cs t u := by
  have hc := ext_24.calls er (er.elim 0 (fun x => x)) w (hld.below h.bel) (code_f er)
  with_reducible refine hc.mono ?_
  rintro e w5 ⟨rfl, hb5⟩
  exact ⟨rfl, h.below hb5⟩
/-- What both say of one wait. -/
theorem both_wait (t : St) (hU : Uniq t) (hS : Short i t) (hi : i ≤ 80) (hld : LD w0) (g q : Nat) (id n : Int) : ∃ (b : Bool) (er : Option Int) (x : Int) (t2 : St), Uniq t2 ∧ Short (i + 1) t2 ∧
    (∀ (w : World) (bb : Nat) (cs : Array Value), JF w0 w g q bb cs t t → Calls Tryd.prog 22 #[.pointer (some ⟨g, 0, none⟩), .int .i64 id, .int .i64 n] w fun e w' => e = .returned (.tuple #[.bool b, errW er]) ∧ JF w0 w' g q bb cs t2 t) ∧
    (∀ (w : World) (bb : Nat) (cs : Array Value), JF w0 w g q bb cs t2 t → Calls Tryd.prog 23 #[.pointer (some ⟨q, 0, none⟩), .int .i64 id, .int .i64 n] w fun e w' => e = .returned (.tuple #[.bool b, .int .i64 x]) ∧ JF w0 w' g q bb cs t2 t2) ∧
    (∀ (w : World) (bb : Nat) (cs : Array Value), JF w0 w g q bb cs t2 t2 → Calls Tryd.prog 24 #[errW er] w fun e w' => e = .returned (.int .i64 x) ∧ JF w0 w' g q bb cs t2 t2) := by
  by_cases hin : 0 ≤ n ∧ n < 4
  · obtain ⟨o, ho4, rfl⟩ : ∃ o : Nat, o < 4 ∧ n = (o : Int) := ⟨n.toNat, by omega, by omega⟩
    have hk := wait_keeps (id := id) ho4 hU hS
    have hf1 := wait_f t id o ho4 i 1000 hS (by omega) (by omega)
    have hf2 := rwait_f t id o ho4 i 1000 hS (by omega) (by omega)
    rw [wait_same] at hf2
    exact ⟨_, _, _, _, hk.1, hk.2, fun w bb cs h => h.owait 1000 id o hf1, fun w bb cs h => h.rwait 1000 id o hf2, fun w bb cs h => h.code hld _⟩
  · exact ⟨false, some 10, 10, t, hU, fun j hj => Nat.le_succ_of_le (hS j hj), fun w bb cs h => h.owait 1000 id n (wait_out t id n hin 1000), fun w bb cs h => h.rwait 1000 id n (rwait_out t id n hin 1000), fun w bb cs h => h.code hld _⟩
/-- What both say of one signal. -/
theorem both_signal (t : St) (hU : Uniq t) (hS : Short i t) (hld : LD w0) (g q : Nat) (n : Int) : ∃ (y : Int) (b : Bool) (er : Option Int) (x : Int) (t2 : St), Uniq t2 ∧ Short (i + 1) t2 ∧
    (∀ (w : World) (bb : Nat) (cs : Array Value), JF w0 w g q bb cs t t → Calls Tryd.prog 25 #[.pointer (some ⟨g, 0, none⟩), .int .i64 n] w fun e w' => e = .returned (.tuple #[.int .i64 y, .bool b, errW er]) ∧ JF w0 w' g q bb cs t2 t) ∧
    (∀ (w : World) (bb : Nat) (cs : Array Value), JF w0 w g q bb cs t2 t → Calls Tryd.prog 26 #[.pointer (some ⟨q, 0, none⟩), .int .i64 n] w fun e w' => e = .returned (.tuple #[.int .i64 y, .bool b, .int .i64 x]) ∧ JF w0 w' g q bb cs t2 t2) ∧
    (∀ (w : World) (bb : Nat) (cs : Array Value), JF w0 w g q bb cs t2 t2 → Calls Tryd.prog 24 #[errW er] w fun e w' => e = .returned (.int .i64 x) ∧ JF w0 w' g q bb cs t2 t2) := by
  by_cases hin : 0 ≤ n ∧ n < 4
  · obtain ⟨o, ho4, rfl⟩ : ∃ o : Nat, o < 4 ∧ n = (o : Int) := ⟨n.toNat, by omega, by omega⟩
    have hk := signal_keeps ho4 hU hS
    have hf1 := signal_f t o ho4
    have he : (signalS t o).2.2.1 = none := by
      unfold signalS
      split <;> rfl
    have hr := fun (w : World) (bb : Nat) (cs : Array Value) (h : JF w0 w g q bb cs (signalS t o).2.2.2 t) => h.rsig o ho4
    generalize signalS t o = R at hk hf1 he hr
    obtain ⟨y, b, er, t2⟩ := R
    dsimp only at he hr
    subst he
    exact ⟨y, b, none, 0, t2, hk.1, fun j hj => Nat.le_succ_of_le (hk.2 j hj), fun w bb cs h => h.osignal o hf1, hr, fun w bb cs h => h.code hld none⟩
  · exact ⟨0, false, some 10, 10, t, hU, fun j hj => Nat.le_succ_of_le (hS j hj), fun w bb cs h => h.osignal n (signal_out t n hin), fun w bb cs h => h.rsig_out n hin, fun w bb cs h => h.code hld _⟩
/-- What both say of one drop. -/
theorem both_drop (t : St) (hU : Uniq t) (hS : Short i t) (hi : i ≤ 80) (w0 : World) (g q : Nat) (id : Int) : ∃ (b : Bool) (t2 : St), Uniq t2 ∧ Short (i + 1) t2 ∧
    (∀ (w : World) (bb : Nat) (cs : Array Value), JF w0 w g q bb cs t t → Calls Tryd.prog 27 #[.pointer (some ⟨g, 0, none⟩), .int .i64 id] w fun e w' => e = .returned (.bool b) ∧ JF w0 w' g q bb cs t2 t) ∧
    (∀ (w : World) (bb : Nat) (cs : Array Value), JF w0 w g q bb cs t2 t → Calls Tryd.prog 28 #[.pointer (some ⟨q, 0, none⟩), .int .i64 id] w fun e w' => e = .returned (.bool b) ∧ JF w0 w' g q bb cs t2 t2) := by
  have hk := drop_keeps (id := id) hU hS
  have hf1 := drop_f t id i 1000 hS (by omega) (by omega)
  have hf2 := rdrop_f t id i 1000 hS (by omega) (by omega)
  rw [drop_same t id hU] at hf2 hk
  exact ⟨_, _, hk.1, fun j hj => Nat.le_succ_of_le (hk.2 j hj), fun w bb cs h => h.odrop 1000 id hf1, fun w bb cs h => h.rdrop 1000 id hf2⟩
theorem JF.count_out (h : JF w0 w g q b_ cs t u) (z : Int) (hz : ¬ (0 ≤ z ∧ z < 4)) :
    Calls Tryd.prog 29 #[.pointer (some ⟨g, 0, none⟩), .int .i64 z] w fun e w' => e = .returned (.int .i64 0) ∧ JF w0 w' g q b_ cs t u := h.ocount z (ObjR.count_out _ _ hz)
theorem JF.row_out (h : JF w0 w g q b_ cs t u) (z : Int) (hz : ¬ (0 ≤ z ∧ z < 4)) :
    Calls Tryd.prog 30 #[.pointer (some ⟨g, 0, none⟩), .int .i64 z] w fun e w' => ∃ A c, e = .returned (.slice A 0 c) ∧ JF w0 w' g q b_ cs t u := by
  have hc := h.orow z (ObjR.row_out _ _ hz)
  with_reducible refine hc.mono ?_
  rintro e wd ⟨A, c, rfl, hc1, hC1, hK2⟩
  exact ⟨A, c, rfl, hK2⟩
theorem JF.see0 (h : JF w0 w g q b_ cs t u) (hS : Short i t) (hi : i ≤ 81) : ∃ B d, (row u 0).length ≤ d ∧ w.cell? ⟨q, 0, none⟩ = some (.int .i64 (cnt u 0)) ∧ w.cell? ⟨q, 4, none⟩ = some (.slice B (row u 0).length d) ∧
    Calls Tryd.prog 29 #[.pointer (some ⟨g, 0, none⟩), .int .i64 0] w fun e w' => e = .returned (.int .i64 (cnt t 0)) ∧ w'.cell? ⟨q, 0, none⟩ = some (.int .i64 (cnt u 0)) ∧ w'.cell? ⟨q, 4, none⟩ = some (.slice B (row u 0).length d) ∧
    Calls Tryd.prog 30 #[.pointer (some ⟨g, 0, none⟩), .int .i64 0] w' fun e w'' => ∃ A c, e = .returned (.slice A (row t 0).length c) ∧ (row t 0).length ≤ c ∧ Kd.C (Kd.int .i64) w'' A (row t 0).length (row t 0) ∧ JF w0 w'' g q b_ cs t u ∧ w''.cell? ⟨q, 0, none⟩ = some (.int .i64 (cnt u 0)) ∧ w''.cell? ⟨q, 4, none⟩ = some (.slice B (row u 0).length d) ∧ Kd.C (Kd.int .i64) w'' B (row u 0).length (row u 0) := by
  obtain ⟨S, T, hO, hQ, hd, hF⟩ := h
  obtain ⟨u0, u1, u2, u3, hg, hT, ⟨r0, r1, r2, r3⟩, ha, g0, hb0⟩ := id hQ
  obtain ⟨B, d, e_, a0, b0⟩ := Kd.Q_reads r0
  refine ⟨B, d, a0, (blk_cell hg 0).trans rfl, (blk_cell hg 4).trans (congrArg some e_), ?_⟩
  refine (OSt.count hO 0 (cnt t 0) (ObjR.count_f t 0 (by omega))).mono ?_
  rintro e w' ⟨rfl, hn⟩
  obtain ⟨S1, hO1, hQ1, hd1, hF1⟩ := JF.parts hO hQ hd hF hn
  obtain ⟨_, hk⟩ := id hn
  have ra := Kd.Q_kept r0 hk (fun k e hS => hd k hS ((hT k).2 (.inl (.inl e))))
  have hg1 := blk_kept hg hk (fun hS => hd q hS ((hT q).2 (.inr rfl)))
  refine ⟨rfl, (blk_cell hg1 0).trans rfl, (blk_cell hg1 4).trans (congrArg some e_), ?_⟩
  refine (OSt.row hO1 0 (row t 0) (ObjR.row_f t 0 (by omega) i hS (by omega))).mono ?_
  rintro e w'' ⟨A, c, rfl, hc, hC, hn2⟩
  obtain ⟨_, hk2⟩ := id hn2
  have rr := Kd.Q_kept ra hk2 (fun k e hS => hd1 k hS ((hT k).2 (.inl (.inl e))))
  have hg2 := blk_kept hg1 hk2 (fun hS => hd1 q hS ((hT q).2 (.inr rfl)))
  obtain ⟨B2, d2, e2, a2, b2⟩ := Kd.Q_reads rr
  rw [e_] at e2
  cases e2
  exact ⟨A, c, rfl, hc, hC, JF.ofO hO1 hQ1 hd1 hF1 hn2, (blk_cell hg2 0).trans rfl, (blk_cell hg2 4).trans (congrArg some e_), b2⟩
theorem JF.see1 (h : JF w0 w g q b_ cs t u) (hS : Short i t) (hi : i ≤ 81) : ∃ B d, (row u 1).length ≤ d ∧ w.cell? ⟨q, 1, none⟩ = some (.int .i64 (cnt u 1)) ∧ w.cell? ⟨q, 5, none⟩ = some (.slice B (row u 1).length d) ∧
    Calls Tryd.prog 29 #[.pointer (some ⟨g, 0, none⟩), .int .i64 1] w fun e w' => e = .returned (.int .i64 (cnt t 1)) ∧ w'.cell? ⟨q, 1, none⟩ = some (.int .i64 (cnt u 1)) ∧ w'.cell? ⟨q, 5, none⟩ = some (.slice B (row u 1).length d) ∧
    Calls Tryd.prog 30 #[.pointer (some ⟨g, 0, none⟩), .int .i64 1] w' fun e w'' => ∃ A c, e = .returned (.slice A (row t 1).length c) ∧ (row t 1).length ≤ c ∧ Kd.C (Kd.int .i64) w'' A (row t 1).length (row t 1) ∧ JF w0 w'' g q b_ cs t u ∧ w''.cell? ⟨q, 1, none⟩ = some (.int .i64 (cnt u 1)) ∧ w''.cell? ⟨q, 5, none⟩ = some (.slice B (row u 1).length d) ∧ Kd.C (Kd.int .i64) w'' B (row u 1).length (row u 1) := by
  obtain ⟨S, T, hO, hQ, hd, hF⟩ := h
  obtain ⟨u0, u1, u2, u3, hg, hT, ⟨r0, r1, r2, r3⟩, ha, g0, hb0⟩ := id hQ
  obtain ⟨B, d, e_, a0, b0⟩ := Kd.Q_reads r1
  refine ⟨B, d, a0, (blk_cell hg 1).trans rfl, (blk_cell hg 5).trans (congrArg some e_), ?_⟩
  refine (OSt.count hO 1 (cnt t 1) (ObjR.count_f t 1 (by omega))).mono ?_
  rintro e w' ⟨rfl, hn⟩
  obtain ⟨S1, hO1, hQ1, hd1, hF1⟩ := JF.parts hO hQ hd hF hn
  obtain ⟨_, hk⟩ := id hn
  have ra := Kd.Q_kept r1 hk (fun k e hS => hd k hS ((hT k).2 (.inl (.inr (.inl e)))))
  have hg1 := blk_kept hg hk (fun hS => hd q hS ((hT q).2 (.inr rfl)))
  refine ⟨rfl, (blk_cell hg1 1).trans rfl, (blk_cell hg1 5).trans (congrArg some e_), ?_⟩
  refine (OSt.row hO1 1 (row t 1) (ObjR.row_f t 1 (by omega) i hS (by omega))).mono ?_
  rintro e w'' ⟨A, c, rfl, hc, hC, hn2⟩
  obtain ⟨_, hk2⟩ := id hn2
  have rr := Kd.Q_kept ra hk2 (fun k e hS => hd1 k hS ((hT k).2 (.inl (.inr (.inl e)))))
  have hg2 := blk_kept hg1 hk2 (fun hS => hd1 q hS ((hT q).2 (.inr rfl)))
  obtain ⟨B2, d2, e2, a2, b2⟩ := Kd.Q_reads rr
  rw [e_] at e2
  cases e2
  exact ⟨A, c, rfl, hc, hC, JF.ofO hO1 hQ1 hd1 hF1 hn2, (blk_cell hg2 1).trans rfl, (blk_cell hg2 5).trans (congrArg some e_), b2⟩
theorem JF.see2 (h : JF w0 w g q b_ cs t u) (hS : Short i t) (hi : i ≤ 81) : ∃ B d, (row u 2).length ≤ d ∧ w.cell? ⟨q, 2, none⟩ = some (.int .i64 (cnt u 2)) ∧ w.cell? ⟨q, 6, none⟩ = some (.slice B (row u 2).length d) ∧
    Calls Tryd.prog 29 #[.pointer (some ⟨g, 0, none⟩), .int .i64 2] w fun e w' => e = .returned (.int .i64 (cnt t 2)) ∧ w'.cell? ⟨q, 2, none⟩ = some (.int .i64 (cnt u 2)) ∧ w'.cell? ⟨q, 6, none⟩ = some (.slice B (row u 2).length d) ∧
    Calls Tryd.prog 30 #[.pointer (some ⟨g, 0, none⟩), .int .i64 2] w' fun e w'' => ∃ A c, e = .returned (.slice A (row t 2).length c) ∧ (row t 2).length ≤ c ∧ Kd.C (Kd.int .i64) w'' A (row t 2).length (row t 2) ∧ JF w0 w'' g q b_ cs t u ∧ w''.cell? ⟨q, 2, none⟩ = some (.int .i64 (cnt u 2)) ∧ w''.cell? ⟨q, 6, none⟩ = some (.slice B (row u 2).length d) ∧ Kd.C (Kd.int .i64) w'' B (row u 2).length (row u 2) := by
  obtain ⟨S, T, hO, hQ, hd, hF⟩ := h
  obtain ⟨u0, u1, u2, u3, hg, hT, ⟨r0, r1, r2, r3⟩, ha, g0, hb0⟩ := id hQ
  obtain ⟨B, d, e_, a0, b0⟩ := Kd.Q_reads r2
  refine ⟨B, d, a0, (blk_cell hg 2).trans rfl, (blk_cell hg 6).trans (congrArg some e_), ?_⟩
  refine (OSt.count hO 2 (cnt t 2) (ObjR.count_f t 2 (by omega))).mono ?_
  rintro e w' ⟨rfl, hn⟩
  obtain ⟨S1, hO1, hQ1, hd1, hF1⟩ := JF.parts hO hQ hd hF hn
  obtain ⟨_, hk⟩ := id hn
  have ra := Kd.Q_kept r2 hk (fun k e hS => hd k hS ((hT k).2 (.inl (.inr (.inr (.inl e))))))
  have hg1 := blk_kept hg hk (fun hS => hd q hS ((hT q).2 (.inr rfl)))
  refine ⟨rfl, (blk_cell hg1 2).trans rfl, (blk_cell hg1 6).trans (congrArg some e_), ?_⟩
  refine (OSt.row hO1 2 (row t 2) (ObjR.row_f t 2 (by omega) i hS (by omega))).mono ?_
  rintro e w'' ⟨A, c, rfl, hc, hC, hn2⟩
  obtain ⟨_, hk2⟩ := id hn2
  have rr := Kd.Q_kept ra hk2 (fun k e hS => hd1 k hS ((hT k).2 (.inl (.inr (.inr (.inl e))))))
  have hg2 := blk_kept hg1 hk2 (fun hS => hd1 q hS ((hT q).2 (.inr rfl)))
  obtain ⟨B2, d2, e2, a2, b2⟩ := Kd.Q_reads rr
  rw [e_] at e2
  cases e2
  exact ⟨A, c, rfl, hc, hC, JF.ofO hO1 hQ1 hd1 hF1 hn2, (blk_cell hg2 2).trans rfl, (blk_cell hg2 6).trans (congrArg some e_), b2⟩
theorem JF.see3 (h : JF w0 w g q b_ cs t u) (hS : Short i t) (hi : i ≤ 81) : ∃ B d, (row u 3).length ≤ d ∧ w.cell? ⟨q, 3, none⟩ = some (.int .i64 (cnt u 3)) ∧ w.cell? ⟨q, 7, none⟩ = some (.slice B (row u 3).length d) ∧
    Calls Tryd.prog 29 #[.pointer (some ⟨g, 0, none⟩), .int .i64 3] w fun e w' => e = .returned (.int .i64 (cnt t 3)) ∧ w'.cell? ⟨q, 3, none⟩ = some (.int .i64 (cnt u 3)) ∧ w'.cell? ⟨q, 7, none⟩ = some (.slice B (row u 3).length d) ∧
    Calls Tryd.prog 30 #[.pointer (some ⟨g, 0, none⟩), .int .i64 3] w' fun e w'' => ∃ A c, e = .returned (.slice A (row t 3).length c) ∧ (row t 3).length ≤ c ∧ Kd.C (Kd.int .i64) w'' A (row t 3).length (row t 3) ∧ JF w0 w'' g q b_ cs t u ∧ w''.cell? ⟨q, 3, none⟩ = some (.int .i64 (cnt u 3)) ∧ w''.cell? ⟨q, 7, none⟩ = some (.slice B (row u 3).length d) ∧ Kd.C (Kd.int .i64) w'' B (row u 3).length (row u 3) := by
  obtain ⟨S, T, hO, hQ, hd, hF⟩ := h
  obtain ⟨u0, u1, u2, u3, hg, hT, ⟨r0, r1, r2, r3⟩, ha, g0, hb0⟩ := id hQ
  obtain ⟨B, d, e_, a0, b0⟩ := Kd.Q_reads r3
  refine ⟨B, d, a0, (blk_cell hg 3).trans rfl, (blk_cell hg 7).trans (congrArg some e_), ?_⟩
  refine (OSt.count hO 3 (cnt t 3) (ObjR.count_f t 3 (by omega))).mono ?_
  rintro e w' ⟨rfl, hn⟩
  obtain ⟨S1, hO1, hQ1, hd1, hF1⟩ := JF.parts hO hQ hd hF hn
  obtain ⟨_, hk⟩ := id hn
  have ra := Kd.Q_kept r3 hk (fun k e hS => hd k hS ((hT k).2 (.inl (.inr (.inr (.inr e))))))
  have hg1 := blk_kept hg hk (fun hS => hd q hS ((hT q).2 (.inr rfl)))
  refine ⟨rfl, (blk_cell hg1 3).trans rfl, (blk_cell hg1 7).trans (congrArg some e_), ?_⟩
  refine (OSt.row hO1 3 (row t 3) (ObjR.row_f t 3 (by omega) i hS (by omega))).mono ?_
  rintro e w'' ⟨A, c, rfl, hc, hC, hn2⟩
  obtain ⟨_, hk2⟩ := id hn2
  have rr := Kd.Q_kept ra hk2 (fun k e hS => hd1 k hS ((hT k).2 (.inl (.inr (.inr (.inr e))))))
  have hg2 := blk_kept hg1 hk2 (fun hS => hd1 q hS ((hT q).2 (.inr rfl)))
  obtain ⟨B2, d2, e2, a2, b2⟩ := Kd.Q_reads rr
  rw [e_] at e2
  cases e2
  exact ⟨A, c, rfl, hc, hC, JF.ofO hO1 hQ1 hd1 hF1 hn2, (blk_cell hg2 3).trans rfl, (blk_cell hg2 7).trans (congrArg some e_), b2⟩
theorem same_calls {A B : Option Addr} {c d : Nat} {l : List Int} (hS : Short i t) (hi : i ≤ 81) {z : Nat} (hz : z < 4) (hl : l = row t z) (hA : Kd.C (Kd.int .i64) w A l.length l) (hc : l.length ≤ c) (hB : Kd.C (Kd.int .i64) w B l.length l) (hd : l.length ≤ d) :
    Calls Tryd.prog 31 #[.slice A l.length c, .slice B l.length d] w fun e w' => e = .returned (.bool true) ∧ Below w.heap.size w w' := by
  have hl2 := hS z hz
  rw [← hl] at hl2
  have hc := tontineref1_SameInts.calls 100000 A c l B d l true w hA hc hB hd (ObjQ.same_f _ 100000 (by omega) (by omega))
  with_reducible refine hc.mono ?_
  rintro e w' ⟨rfl, hd⟩
  exact ⟨rfl, hd.below⟩
end Go.Proofs.YtiejhnijfgdapaaDoor.P
