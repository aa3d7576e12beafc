/- Slices of slices, appends, comparisons with nil, what has no address. -/
import Derived.Test.YtjgdcifbhmjinaaEvP
namespace Go.Proofs.Ytjgdcifbhmjinaa.Ev
open Go

section
variable {P : Program} {ρ : Rho} {I : Im} {s s' : St} {w : World}

theorem ESR.drop {sz : Nat} {es : List (List Val)} {l : List Value} (h : ESR ρ I sz es l) (n : Nat) : ESR ρ I sz (es.drop n) (l.drop (n * sz)) := by
  induction es generalizing l n with
  | nil => simpa using ESR.enil
  | cons e es ih =>
    cases h with
    | econs h1 h2 h3 =>
      cases n with
      | zero => simpa using ESR.econs h1 h2 h3
      | succ n =>
        have := ih h3 n
        rw [List.drop_drop, show sz + n * sz = (n + 1) * sz by rw [Nat.succ_mul]; omega] at this
        simpa using this
theorem ESR.take {sz : Nat} {es : List (List Val)} {l : List Value} (h : ESR ρ I sz es l) (n : Nat) : ESR ρ I sz (es.take n) l := by
  induction es generalizing l n with
  | nil => simpa using ESR.enil
  | cons e es ih =>
    cases h with
    | econs h1 h2 h3 =>
      cases n with
      | zero => simpa using ESR.enil
      | succ n => exact .econs h1 h2 (ih h3 n)
theorem ESR.flat {sz : Nat} {es : List (List Val)} {l : List Value} (h : ESR ρ I sz es l) : VRs ρ I es.flatten (l.take (es.length * sz)) := by
  induction es generalizing l with
  | nil => simpa using VRs.nil
  | cons e es ih =>
    cases h with
    | econs h1 h2 h3 =>
      have := h2.append (ih h3)
      rw [List.flatten_cons, List.length_cons, Nat.succ_mul, Nat.add_comm, List.take_add]
      exact this

theorem capGe_true {cap : Option Nat} {h c : Nat} (hc : capGe cap h = true) (hcap : cap = none ∨ cap = some c) : h ≤ c := by
  unfold capGe at hc
  rcases hcap with rfl | rfl
  · cases hc
  · exact Nat.le_of_ble_eq_true hc

/-- The bounds, out of the operands. -/
theorem bounds_ok {isS : Bool} {len c : Nat} {lo hi mx : Option Val} {lo' hi' mx' : Option Value} {l h m : Option Nat} (h1 : optNat lo = some l) (h2 : optNat hi = some h) (h3 : optNat mx = some m)
    (r1 : OR ρ I lo lo') (r2 : OR ρ I hi hi') (r3 : OR ρ I mx mx') (b1 : l.getD 0 ≤ h.getD len) (b2 : h.getD len ≤ m.getD c) (b3 : m.getD c ≤ c) (b4 : m.isSome = true → h.isSome = true) :
    (Instr.sliceBounds isS len c lo' hi' mx').run P w = .ok (l.getD 0, h.getD len, m.getD c) w := by
  have e1 := optNat_some h1 r1
  have e2 := optNat_some h2 r2
  have e3 := optNat_some h3 r3
  clear h1 h2 h3 r1 r2 r3
  have run : ∀ (k : IntKind) (i y : Nat) (code : BoundsCode), i ≤ y → (Instr.sliceBound (.int k (i : Nat)) y code).run P w = .ok i w := by
    intro k i y code hy
    rw [run_sliceBound w k i y code (by omega) (by omega)]
    simp
  rcases e1 with ⟨rfl, -, rfl⟩ | ⟨a, ka, rfl, -, rfl⟩ <;> rcases e2 with ⟨rfl, -, rfl⟩ | ⟨b, kb, rfl, -, rfl⟩ <;> rcases e3 with ⟨rfl, -, rfl⟩ | ⟨d, kd, rfl, -, rfl⟩ <;>
    simp only [Option.getD_some, Option.getD_none, Option.isSome_some, Option.isSome_none, Bool.false_eq_true, forall_const, imp_false] at b1 b2 b3 b4 <;>
    simp only [Instr.sliceBounds, Sem.run_bind, Sem.run_pure, Result.andThen, Option.getD_some, Option.getD_none]
  · rw [run kb b c _ b2]
  · rw [run kd d c _ b3]; simp only; rw [run kb b d _ b2]
  · rw [run ka a len _ b1]
  · rw [run kb b c _ b2]; simp only; rw [run ka a b _ b1]
  · rw [run kd d c _ b3]; simp only; rw [run kb b d _ b2]; simp only; rw [run ka a b _ b1]

theorem slice_row {t elem : TypeId} {i : TypeInfo} (hd : P.underlying t = some (.slice elem)) (hi : P.info? elem = some i) {a : Addr} {len c l h m : Nat} {lo hh mx : Option Value}
    (hb : (Instr.sliceBounds true len c lo hh mx).run P w = .ok (l, h, m) w) :
    (Instr.sliceAt t (.slice (some a) len c) lo hh mx).run P w = .ok (.slice (some (if m = l then a else a.add (l * i.size))) (h - l) (m - l)) w := by
  simp only [Instr.sliceAt, Sem.run_bind, underlying_ok hd, Result.andThen, Instr.slice]
  simp only [hb, sizeOf_ok hi, Sem.run_pure]
  split <;> rfl

theorem evSlice_ok {t : TypeId} {x v : Val} {y : Value} {lo hi mx : Option Val} {lo' hi' mx' : Option Value} (h : evSlice P t x lo hi mx s = some (v, s')) (hsr : SR ρ I s.mem w) (hx : VR ρ I x y)
    (r1 : OR ρ I lo lo') (r2 : OR ρ I hi hi') (r3 : OR ρ I mx mx') : ∃ z, (Instr.sliceAt t y lo' hi' mx').run P w = .ok z w ∧ VR ρ I v z ∧ s'.mem = s.mem ∧ s'.next = s.next := by
  unfold evSlice at h
  simp only [bind_some, ofOpt_some] at h
  obtain ⟨l, s0, ⟨h1, rfl⟩, hh, s1, ⟨h2, rfl⟩, m, s2, ⟨h3, rfl⟩, h⟩ := h
  cases hx with
  | @row id off len sz c cap ow ad g1 g2 g3 g4 =>
    simp only [bind_some, ofOpt_some, must_some] at h
    obtain ⟨elem, s3, ⟨hd, rfl⟩, _, s4, ⟨hck, rfl⟩, h⟩ := h
    have hd := slice_some hd
    simp only [Bool.and_eq_true, Bool.or_eq_true] at hck
    obtain ⟨⟨c1, c2⟩, c3⟩ := hck
    obtain ⟨i, hi, rfl⟩ := sizeIs_true c1
    have c2 := Nat.le_of_ble_eq_true c2
    have c5 : hh.getD len ≤ c := by
      rcases c3 with c3 | c3
      · exact Nat.le_trans (Nat.le_of_ble_eq_true c3) g2
      · exact capGe_true c3 g3
    have key : ∀ q, hh.getD len ≤ q → q ≤ c → ∀ cap', (cap' = none ∨ cap' = some (q - l.getD 0)) →
        VR ρ I (.row id (off + l.getD 0 * i.size) (hh.getD len - l.getD 0) i.size cap') (.slice (some (if q = l.getD 0 then ad else ad.add (l.getD 0 * i.size))) (hh.getD len - l.getD 0) (q - l.getD 0)) := by
      intro q q1 q2 cap' q3
      refine .row g1 (by omega) q3 (fun b o n e => ?_)
      obtain ⟨g5, g6⟩ := g4 b o n e
      have e1 : l.getD 0 * i.size + (q - l.getD 0) * i.size = q * i.size := by rw [← Nat.add_mul]; congr 1; omega
      have e2 : q * i.size ≤ c * i.size := Nat.mul_le_mul_right _ q2
      refine ⟨by omega, ?_⟩
      split
      · exact .inl (by omega)
      · rcases g6 with g6 | g6
        · exact .inl (by omega)
        · right
          rw [g6, add_none, Nat.add_assoc]
    cases m with
    | none =>
      have hb := bounds_ok (P := P) (w := w) (isS := true) (c := c) h1 h2 h3 r1 r2 r3 c2 (by simpa using c5) (by simp) (by simp)
      rw [Option.getD_none] at hb
      cases cap with
      | none =>
        simp only [pure_some, Prod.mk.injEq] at h
        obtain ⟨rfl, rfl⟩ := h
        exact ⟨_, slice_row hd hi hb, key c c5 (Nat.le_refl _) _ (.inl rfl), rfl, rfl⟩
      | some c' =>
        simp only [pure_some, Prod.mk.injEq] at h
        obtain ⟨rfl, rfl⟩ := h
        have : c' = c := by simpa using g3
        subst this
        exact ⟨_, slice_row hd hi hb, key c' c5 (Nat.le_refl _) _ (.inr rfl), rfl, rfl⟩
    | some m =>
      simp only [bind_some, must_some, pure_some, Prod.mk.injEq] at h
      obtain ⟨_, s5, ⟨hck, rfl⟩, rfl, rfl⟩ := h
      simp only [Bool.and_eq_true, Bool.or_eq_true] at hck
      obtain ⟨⟨d1, d2⟩, d3⟩ := hck
      have d2 := Nat.le_of_ble_eq_true d2
      have d3 : m ≤ c := by
        rcases d3 with d3 | d3
        · exact Nat.le_trans (Nat.le_of_ble_eq_true d3) g2
        · exact capGe_true d3 g3
      have hb := bounds_ok (P := P) (w := w) (isS := true) (c := c) h1 h2 h3 r1 r2 r3 c2 (by simpa using d2) (by simpa using d3) (fun _ => d1)
      rw [Option.getD_some] at hb
      exact ⟨_, slice_row hd hi hb, key m d2 d3 _ (.inr rfl), rfl, rfl⟩
  | @froNil ad c =>
    simp only [bind_some, ofOpt_some, must_some] at h
    obtain ⟨elem, s3, ⟨hd, rfl⟩, _, s4, ⟨hck, rfl⟩, h⟩ := h
    have hd := slice_some hd
    simp only [Bool.and_eq_true, List.length_nil] at hck
    obtain ⟨⟨⟨c0, c1⟩, c2⟩, c3⟩ := hck
    obtain ⟨sz, hk⟩ := Option.isSome_iff_exists.1 c0
    obtain ⟨i, hi, -⟩ := known_some hk
    have c2 := Nat.le_of_ble_eq_true c2
    have c3 := Nat.le_of_ble_eq_true c3
    cases m with
    | none =>
      simp only [pure_some, Prod.mk.injEq] at h
      obtain ⟨rfl, rfl⟩ := h
      have hb := bounds_ok (P := P) (w := w) (isS := true) (len := 0) (c := c) h1 h2 h3 r1 r2 r3 c2 (by simp; omega) (by simp) (by simp)
      refine ⟨_, slice_row hd hi hb, ?_, rfl, rfl⟩
      rw [show hh.getD 0 - l.getD 0 = 0 by omega]
      simpa using VR.froNil
    | some m =>
      simp only [bind_some, must_some, pure_some, Prod.mk.injEq] at h
      obtain ⟨_, s5, ⟨hck, rfl⟩, rfl, rfl⟩ := h
      simp only [Bool.and_eq_true] at hck
      obtain ⟨⟨d1, d2⟩, d3⟩ := hck
      have d3 := Nat.eq_of_beq_eq_true d3
      subst d3
      have hb := bounds_ok (P := P) (w := w) (isS := true) (len := 0) (c := c) h1 h2 h3 r1 r2 r3 c2 (by simp; omega) (by simp) (fun _ => d1)
      refine ⟨_, slice_row hd hi hb, ?_, rfl, rfl⟩
      rw [show hh.getD 0 - l.getD 0 = 0 by omega, Option.getD_some, Nat.zero_sub]
      exact .emp
  | @fro es b off c sz len cells elem' fr g1 g2 g3 g4 =>
    simp only [bind_some, ofOpt_some, must_some] at h
    obtain ⟨elem, s3, ⟨hd, rfl⟩, _, s4, ⟨hck, rfl⟩, h⟩ := h
    have hd := slice_some hd
    simp only [Bool.and_eq_true] at hck
    obtain ⟨⟨⟨c0, c1⟩, c2⟩, c3⟩ := hck
    obtain ⟨sz', hk⟩ := Option.isSome_iff_exists.1 c0
    obtain ⟨i, hi, -⟩ := known_some hk
    have c2 := Nat.le_of_ble_eq_true c2
    have c3 := Nat.le_of_ble_eq_true c3
    subst g3
    cases m with
    | none =>
      simp only [pure_some, Prod.mk.injEq] at h
      obtain ⟨rfl, rfl⟩ := h
      have hb := bounds_ok (P := P) (w := w) (isS := true) (len := es.length) (c := c) h1 h2 h3 r1 r2 r3 c2 (by simp; omega) (by simp) (by simp)
      refine ⟨_, slice_row hd hi hb, ?_, rfl, rfl⟩
      rw [Option.getD_none]
      by_cases he : hh.getD es.length - l.getD 0 = 0
      · rw [he, List.take_zero]
        exact .froNil
      · have hlt : l.getD 0 < es.length := by omega
        rw [List.getElem?_eq_getElem hlt] at c1
        simp only [sizeAt] at c1
        obtain ⟨i', hi', hs⟩ := sizeIs_true c1
        rw [hi] at hi'
        obtain rfl := Option.some.inj hi'
        have hsz : i.size = sz := by rw [hs]; exact (g2.get (List.getElem?_eq_getElem hlt)).1
        rw [if_neg (by omega), add_none, hsz]
        refine .fro (sz := sz) g1 ?_ (by simp; omega) (by omega)
        have := (g2.drop (l.getD 0)).take (hh.getD es.length - l.getD 0)
        rwa [List.drop_drop] at this
    | some m =>
      simp only [bind_some, must_some, pure_some, Prod.mk.injEq] at h
      obtain ⟨_, s5, ⟨hck, rfl⟩, rfl, rfl⟩ := h
      simp only [Bool.and_eq_true] at hck
      obtain ⟨⟨d1, d2⟩, d3⟩ := hck
      have d2 := Nat.eq_of_beq_eq_true d2
      have d3 := Nat.eq_of_beq_eq_true d3
      subst d3
      have hb := bounds_ok (P := P) (w := w) (isS := true) (len := es.length) (c := c) h1 h2 h3 r1 r2 r3 c2 (by simp; omega) (by simp) (fun _ => d1)
      refine ⟨_, slice_row hd hi hb, ?_, rfl, rfl⟩
      rw [show hh.getD es.length - l.getD 0 = 0 by omega, Option.getD_some, Nat.zero_sub]
      exact .emp
  | @ref id off ow ad g1 g2 =>
    simp only [bind_some, ofOpt_some, must_some, get_some, pure_some, Prod.mk.injEq] at h
    obtain ⟨r, s3, ⟨hd, rfl⟩, sz, s4, ⟨hk, rfl⟩, b, s5, ⟨hb, hs5⟩, _, s6, ⟨hck, hs6⟩, hv, hs'⟩ := h
    subst hs' hs6 hs5 hv
    obtain ⟨n, elem⟩ := r
    have hd : P.underlying t = some (.array n elem) := by
      unfold arrayOf at hd
      split at hd
      · rename_i h; simp only [Option.some.injEq, Prod.mk.injEq] at hd; obtain ⟨rfl, rfl⟩ := hd; exact h
      · cases hd
    dsimp only at hk hck ⊢
    obtain ⟨i, hi, rfl⟩ := known_some hk
    simp only [Bool.and_eq_true] at hck
    obtain ⟨⟨⟨c1, c2⟩, c3⟩, c4⟩ := hck
    have c1 := Nat.le_of_ble_eq_true c1
    have c2 := Nat.le_of_ble_eq_true c2
    have c3 := Nat.le_of_ble_eq_true c3
    cases m with
    | some m => simp at c4
    | none =>
      have hbd := bounds_ok (P := P) (w := w) (isS := false) (len := n) (c := n) h1 h2 h3 r1 r2 r3 c2 (by simpa using c3) (by simp) (by simp)
      rw [Option.getD_none] at hbd
      refine ⟨.slice (some (if n = l.getD 0 then ad else ad.add (l.getD 0 * i.size))) (hh.getD n - l.getD 0) (n - l.getD 0), ?_, .row g1 (by omega) (.inr rfl) (fun bb o q e => ?_), rfl, rfl⟩
      · simp only [Instr.sliceAt, Sem.run_bind, underlying_ok hd, Result.andThen, Instr.sureAddr, Sem.run_pure]
        simp only [hbd, sizeOf_ok hi]
      · have e0 := g2 bb o q e
        subst e
        obtain ⟨cs, hcs, cells, elem', lo, hi', hw, hm, hfr, hol, hrs⟩ := hsr.live _ _ _ _ g1
        rw [hb] at hcs
        obtain rfl := Option.some.inj hcs
        have e1 : l.getD 0 * i.size + (n - l.getD 0) * i.size = n * i.size := by rw [← Nat.add_mul]; congr 1; omega
        refine ⟨by omega, ?_⟩
        split
        · exact .inl (by omega)
        · right
          rw [e0, add_none, Nat.add_assoc]
  | _ => simp only [fail_some] at h

theorem srcLen_ok {x : Val} {y : Value} {n : Nat} (h : srcLen x = some n) (hx : VR ρ I x y) : (Builtin.lenOf y).run P w = .ok n w := by
  unfold srcLen at h
  split at h
  · cases hx; simp only [Option.some.injEq] at h; subst h; rfl
  · simp only [Option.some.injEq] at h
    subst h
    cases hx with
    | froNil => rfl
    | fro _ _ h3 _ => subst h3; rfl
  · cases hx; simp only [Option.some.injEq] at h; subst h; rfl
  · cases hx; simp only [Option.some.injEq] at h; subst h; rfl
  · cases hx; simp only [Option.some.injEq] at h; subst h; rfl
  · cases h

/-- A part of a block as cells to read. -/
theorem firstCells_ok {b k n sz len c : Nat} {cells : Array Value} {elem : TypeId} {fr : Nat × Nat} (h : w.heap[b]? = some (.cells cells elem fr)) (hn : k + n * sz ≤ cells.size) :
    (Builtin.firstCells sz n (.slice (some ⟨b, k, none⟩) len c)).run P w = .ok ((cells.toList.drop k).take (n * sz)).toArray w := by
  simp only [Builtin.firstCells]
  exact loadCells_ok h hn
theorem firstCells_zero {sz : Nat} {a : Addr} {len c : Nat} : (Builtin.firstCells sz 0 (.slice (some a) len c)).run P w = .ok #[] w := by
  simp [Builtin.firstCells, loadCells, loadCellsFrom]

theorem fro_all {es : List (List Val)} {sz sz' : Nat} {l : List Value} (h : (es.all fun e => Nat.beq e.length sz) = true) (hr : ESR ρ I sz' es l) (hne : es ≠ []) : sz' = sz := by
  cases hr with
  | enil => exact absurd rfl hne
  | econs h1 _ _ =>
    simp only [List.all_cons, Bool.and_eq_true] at h
    rw [← h1]
    exact Nat.eq_of_beq_eq_true h.1

theorem srcCells_ok {x : Val} {y : Value} {sz n : Nat} {cs : List Val} (h : srcCells sz x s = some (cs, s')) (hn : srcLen x = some n) (h1 : 1 ≤ sz) (hsr : SR ρ I s.mem w) (hx : VR ρ I x y) :
    ∃ l, (∀ w', w'.heap = w.heap → (Builtin.firstCells sz n y).run P w' = .ok (List.toArray l) w') ∧ VRs ρ I cs l ∧ l.length = n * sz ∧ s'.mem = s.mem ∧ s'.next = s.next := by
  unfold srcCells at h
  split at h
  · rename_i id off len sz' cap
    simp only [bind_some, must_some, get_some, ofOpt_some] at h
    obtain ⟨_, s0, ⟨hck, rfl⟩, b, s1, ⟨hb, hs1⟩, hc, hs'⟩ := h
    subst hs' hs1
    obtain rfl := Nat.eq_of_beq_eq_true hck
    simp only [srcLen, Option.some.injEq] at hn
    subst hn
    cases hx with
    | @row _ _ _ _ c _ ow ad g1 g2 g3 g4 =>
      obtain ⟨bb, o, m, ho⟩ := hsr.mem _ _ hb
      rw [g1] at ho
      obtain rfl := Option.some.inj ho
      obtain ⟨g5, g6⟩ := g4 _ _ _ rfl
      obtain ⟨b', hb', cells, elem, lo, hi, hw, hm, hfr, hol, hrs⟩ := hsr.live _ _ _ _ g1
      rw [hb] at hb'
      obtain rfl := Option.some.inj hb'
      obtain ⟨hn, rfl, hl⟩ := cut_some hc
      have hcl : cells.toList.length = cells.size := by simp
      refine ⟨(cells.toList.drop (o + off)).take (len * sz'), fun w' hw' => ?_, hrs.part hn, by simp; omega, rfl, rfl⟩
      rcases g6 with g6 | g6
      · have h0 : len = 0 := by omega
        subst h0
        rw [firstCells_zero]
        simp
      · subst g6
        exact firstCells_ok (by rw [hw']; exact hw) (by omega)
  · rename_i es
    simp only [bind_some, must_some, pure_some, Prod.mk.injEq] at h
    obtain ⟨_, s0, ⟨hck, rfl⟩, rfl, rfl⟩ := h
    simp only [srcLen, Option.some.injEq] at hn
    subst hn
    cases hx with
    | froNil => exact ⟨[], fun w' _ => by rw [List.length_nil, firstCells_zero], by simpa using VRs.nil, by simp, rfl, rfl⟩
    | @fro es b off c sz' len cells elem' fr g1 g2 g3 g4 =>
      by_cases hne : es = []
      · subst hne
        exact ⟨[], fun w' _ => by rw [List.length_nil, firstCells_zero], by simpa using VRs.nil, by simp, rfl, rfl⟩
      · obtain rfl := fro_all hck g2 hne
        have hf := g2.flat
        have hlen := hf.length
        have hfl : es.flatten.length = es.length * sz' := by
          clear g1 g2 g3 g4 hf hlen hne
          induction es with
          | nil => simp
          | cons e es ih =>
            simp only [List.all_cons, Bool.and_eq_true] at hck
            rw [List.flatten_cons, List.length_append, ih hck.2, Nat.eq_of_beq_eq_true hck.1, List.length_cons, Nat.succ_mul]
            omega
        refine ⟨_, fun w' hw' => firstCells_ok (by rw [hw']; exact hsr.im _ _ g1) ?_, hf, by rw [← hlen, hfl], rfl, rfl⟩
        rw [hfl] at hlen
        simp at hlen
        by_cases h0 : es.length * sz' = 0
        · have : es.length ≠ 0 := fun e => hne (List.eq_nil_of_length_eq_zero e)
          rcases Nat.mul_eq_zero.1 h0 with h | h
          · exact absurd h this
          · omega
        · omega
  · simp only [pure_some, Prod.mk.injEq] at h
    obtain ⟨rfl, rfl⟩ := h
    cases hx
    simp only [srcLen, Option.some.injEq] at hn
    subst hn
    exact ⟨[], fun w' _ => by rw [firstCells_zero], .nil, by simp, rfl, rfl⟩
  · simp only [pure_some, Prod.mk.injEq] at h
    obtain ⟨rfl, rfl⟩ := h
    cases hx
    simp only [srcLen, Option.some.injEq] at hn
    subst hn
    exact ⟨[], fun w' _ => by simp [Builtin.firstCells], .nil, by simp, rfl, rfl⟩
  · rename_i str
    simp only [bind_some, must_some, pure_some, Prod.mk.injEq] at h
    obtain ⟨_, s0, ⟨hck, rfl⟩, rfl, rfl⟩ := h
    cases hx
    simp only [srcLen, Option.some.injEq] at hn
    subst hn
    obtain rfl := Nat.eq_of_beq_eq_true hck
    refine ⟨str.data.toList.map fun b => .int .u8 b.toNat, fun w' _ => ?_, VRs.map _ _ (fun _ => .sc) _, ?_, rfl, rfl⟩
    · simp only [Builtin.firstCells, Sem.run_pure]
      congr 1
      apply Array.ext'
      have : (str.extract 0 str.size) = str := by simp
      rw [this]
      simp
    · simp
  · simp only [fail_some] at h

def noInt : TypeDesc → Bool
  | .int _ => false
  | _ => true
theorem isInt_ok {u : TypeId} (h : isInt P u = some false) : ∃ d, P.underlying u = some d ∧ noInt d = true := by
  unfold isInt at h
  cases hd : P.underlying u with
  | none => rw [hd] at h; cases h
  | some d =>
    rw [hd] at h
    refine ⟨d, rfl, ?_⟩
    cases d <;> first | rfl | (simp at h)

theorem andThen_bool {α : Type} {b : Bool} (f : Bool → World → Result α) (hb : b = false) : (Result.ok b w).andThen f = f false w := by subst hb; rfl

/-- An append behind the end, in its place. -/
theorem append_here {ts : Array TypeId} {ty t u e : TypeId} {i : TypeInfo} {a : Addr} {sLen sCap n : Nat} {y : Value} {news : List Value} {w1 : World} (h0 : ts[0]? = some t) (h1 : ts[1]? = some u) (ht : P.underlying t = some (.slice e))
    (hu : isInt P u = some false) (hi : P.info? e = some i) (hlen : (Builtin.lenOf y).run P w = .ok n w) (hsrc : (Builtin.firstCells i.size n y).run P w = .ok news.toArray w) (hc : sLen + n ≤ sCap)
    (hst : (storeCells (a.add (sLen * i.size)) news).run P w = .ok () w1) : (Builtin.append_ ts ty #[.slice (some a) sLen sCap, y]).run P w = .ok (.slice (some a) (sLen + n) sCap) w1 := by
  obtain ⟨d, hd, hd'⟩ := isInt_ok hu
  unfold Builtin.append_
  simp only [h0, h1, List.getElem?_toArray, List.getElem?_cons_zero, List.getElem?_cons_succ]
  rw [Sem.run_bind, underlying_ok ht]
  simp only [Result.andThen]
  rw [Sem.run_bind, sizeOf_ok hi]
  simp only [Result.andThen]
  rw [Sem.run_bind, underlying_ok hd]
  simp only [Result.andThen]
  rw [Sem.run_bind, Sem.run_pure, andThen_bool]
  · simp only [Result.andThen, Bool.false_eq_true, if_false, Sem.run_bind, hlen, hc, if_true, Bool.not_false, hsrc, hst, Sem.run_pure]
  · cases d <;> first | rfl | (simp [noInt] at hd')

/-- An append to a new place. -/
theorem append_there {ts : Array TypeId} {ty t u e : TypeId} {i : TypeInfo} {zv : Value} {a : Option Addr} {sLen sCap n : Nat} {y : Value} {news olds : List Value} (h0 : ts[0]? = some t) (h1 : ts[1]? = some u)
    (ht : P.underlying t = some (.slice e)) (hu : isInt P u = some false) (hi : P.info? e = some i) (hz : i.zero = some zv) (hlen : (Builtin.lenOf y).run P w = .ok n w)
    (hsrc : (Builtin.firstCells i.size n y).run P w.drew = .ok news.toArray w.drew) (hold : (Builtin.firstCells i.size sLen (.slice a sLen sCap)).run P w.drew = .ok olds.toArray w.drew) (hc : ¬ sLen + n ≤ sCap)
    (hb : i.bytes ≤ 65536) (hn : sLen + n ≤ 1073741824) : (Builtin.append_ ts ty #[.slice a sLen sCap, y]).run P w =
      .ok (.slice (some ⟨w.heap.size, 0, none⟩) (sLen + n) (grownCap w (sLen + n) sCap e)) (w.drew.alloc (.cells (olds ++ (news ++ (Builtin.zeroCells zv.cells (grownCap w (sLen + n) sCap e - (sLen + n))).toList)).toArray e)) := by
  obtain ⟨d, hd, hd'⟩ := isInt_ok hu
  have hfit := growslice_fits (need := sLen + n) (old := sCap) (bytes := i.bytes) (by omega) (by
    have := Nat.mul_le_mul hn hb
    omega)
  have c1 : ¬ (9223372036854775807 < ((sLen : Int) + (n : Int))) := by omega
  have c2 : ¬ (281474976710656 < Builtin.nextslicecap (sLen + n) sCap * i.bytes) := by omega
  unfold Builtin.append_
  simp only [h0, h1, List.getElem?_toArray, List.getElem?_cons_zero, List.getElem?_cons_succ]
  rw [Sem.run_bind, underlying_ok ht]
  simp only [Result.andThen]
  rw [Sem.run_bind, sizeOf_ok hi]
  simp only [Result.andThen]
  rw [Sem.run_bind, underlying_ok hd]
  simp only [Result.andThen]
  rw [Sem.run_bind, Sem.run_pure, andThen_bool]
  · simp [typeInfo, zeroValue, hi, hz, hlen, hc, hsrc, hold, c1, c2, Question.forced, newRow, grownCap]
    congr 2
    apply Array.ext'
    simp
  · cases d <;> first | rfl | (simp [noInt] at hd')

theorem grownCap_le (need old : Nat) (e : TypeId) : need ≤ grownCap w need old e := by
  unfold grownCap Question.cut
  exact Nat.le_add_right _ _
theorem zeroCells_size (z : Array Value) (n : Nat) : (Builtin.zeroCells z n).size = n * z.size := by simp [Builtin.zeroCells]

/-- A block's rest is handed on to a new name, at its place. -/
theorem SR.move (hsr : SR ρ I s.mem w) {id b o n k o' : Nat} {cs' : List Val} {cells : Array Value} {elem : TypeId} {lo hi : Nat} {l : List Value} (hid : ρ id = some (.live b o n)) (hk : ρ k = none)
    (hw : w.heap[b]? = some (.cells cells elem (lo, hi))) (hl : l.length = cells.size) (hlen : o' + cs'.length ≤ cells.size) (hv : VRs ρ I cs' ((l.drop o').take cs'.length)) :
    SR ((ρ.add id .dead).add k (.live b o' n)) I ((k, cs') :: del id s.mem) (putRow w b (.cells l.toArray elem (lo, hi))) := by
  obtain ⟨cs0, hcs0, cells0, elem0, lo0, hi0, hw0, hn, hfr, hol, _⟩ := hsr.live _ _ _ _ hid
  rw [hw] at hw0
  simp only [Option.some.injEq, Obj.cells.injEq, Prod.mk.injEq] at hw0
  obtain ⟨rfl, rfl, rfl, rfl⟩ := hw0
  have hki : k ≠ id := fun e => by subst e; rw [hk] at hid; cases hid
  have hk' : (ρ.add id .dead) k = none := by unfold Rho.add; rw [if_neg hki]; exact hk
  have hle : Le ρ ((ρ.add id .dead).add k (.live b o' n)) := Le.die.trans (Le.add hk')
  have val : ∀ j own, ((ρ.add id .dead).add k (.live b o' n)) j = some own → (j = k ∧ own = .live b o' n) ∨ (j ≠ k ∧ j = id ∧ own = .dead) ∨ (j ≠ k ∧ j ≠ id ∧ ρ j = some own) := by
    intro j own h
    unfold Rho.add at h
    split at h
    · rename_i e; simp only [Option.some.injEq] at h; exact .inl ⟨e, h.symm⟩
    · rename_i e
      split at h
      · rename_i e'; simp only [Option.some.injEq] at h; exact .inr (.inl ⟨e, e', h.symm⟩)
      · rename_i e'; exact .inr (.inr ⟨e, e', h⟩)
  have nb : ∀ j b' o1 n1, j ≠ id → ρ j = some (.live b' o1 n1) → b ≠ b' := fun j b' o1 n1 hj h e => by
    subst e
    exact hj (hsr.inj _ _ _ _ _ _ _ h hid)
  refine ⟨fun j b1 o1 n1 h => ?_, fun j c h => ?_, fun j j' b1 o1 n1 o2 n2 h h' => ?_, fun b1 x h => ?_, fun j b1 o1 n1 h => ?_, ⟨hsr.env.os, hsr.env.tape, hsr.env.output, by simp only [putRow, Array.size_setIfInBounds]; exact hsr.env.size⟩⟩
  · rcases val j _ h with ⟨e, q⟩ | ⟨_, _, q⟩ | ⟨h1, h2, q⟩
    · simp only [Own.live.injEq] at q
      obtain ⟨rfl, rfl, rfl⟩ := q
      exact ⟨cs', by rw [look_cons, if_pos e.symm], l.toArray, elem, lo, hi, putRow_at hw, by simp [hl, hn], by simpa using hfr, by omega, by simpa using hv.mono hle (.refl _)⟩
    · cases q
    · obtain ⟨c1, hc1, cells1, elem1, lo1, hi1, hw1, hn1, hfr1, hol1, hv1⟩ := hsr.live _ _ _ _ q
      exact ⟨c1, by rw [look_cons, if_neg (fun h => h1 h.symm), look_del, if_neg (fun h => h2 h.symm)]; exact hc1, cells1, elem1, lo1, hi1, by rw [putRow_other (nb _ _ _ _ h2 q)]; exact hw1, hn1, hfr1, hol1, hv1.mono hle (.refl _)⟩
  · rw [look_cons] at h
    unfold Rho.add
    split at h
    · rename_i e; subst e; exact ⟨_, _, _, if_pos rfl⟩
    · rename_i e
      rw [look_del] at h
      split at h
      · cases h
      · rename_i e'
        obtain ⟨b1, o1, n1, q⟩ := hsr.mem _ _ h
        exact ⟨b1, o1, n1, by rw [if_neg (fun h => e h.symm), if_neg (fun h => e' h.symm)]; exact q⟩
  · rcases val j _ h with ⟨e, q⟩ | ⟨_, _, q⟩ | ⟨h1, h2, q⟩ <;> rcases val j' _ h' with ⟨e', q'⟩ | ⟨_, _, q'⟩ | ⟨h3, h4, q'⟩
    · rw [e, e']
    · cases q'
    · simp only [Own.live.injEq] at q
      obtain ⟨rfl, rfl, rfl⟩ := q
      exact absurd rfl (nb _ _ _ _ h4 q')
    · cases q
    · cases q
    · cases q
    · simp only [Own.live.injEq] at q'
      obtain ⟨rfl, rfl, rfl⟩ := q'
      exact absurd rfl (nb _ _ _ _ h2 q)
    · cases q'
    · exact hsr.inj _ _ _ _ _ _ _ q q'
  · have hb : b ≠ b1 := fun e => by
      subst e
      rw [hsr.aside _ _ _ _ hid] at h
      cases h
    rw [putRow_other hb]
    exact hsr.im _ _ h
  · rcases val j _ h with ⟨e, q⟩ | ⟨_, _, q⟩ | ⟨h1, h2, q⟩
    · simp only [Own.live.injEq] at q
      obtain ⟨rfl, rfl, rfl⟩ := q
      exact hsr.aside _ _ _ _ hid
    · cases q
    · exact hsr.aside _ _ _ _ q

/-- A new row: what was there, what is appended, and room. -/
theorem grown_ok {k : Nat} {cs new' : List Val} {olds news : List Value} {sz need old : Nat} {zv : Value} {e : TypeId} {s1 : St} (h : Ev.new (cs ++ new') s1 = some (k, s')) (hsr : SR ρ I s1.mem w) (hf : Free ρ s1 s') (ho : VRs ρ I cs olds) (hn : VRs ρ I new' news)
    (hz : zv.cells.size = sz) (hl : olds.length + news.length = need * sz) :
    Post ρ I s1 s' (.row k 0 need sz none) (.slice (some ⟨w.heap.size, 0, none⟩) need (grownCap w need old e)) (w.drew.alloc (.cells (olds ++ (news ++ (Builtin.zeroCells zv.cells (grownCap w need old e - need)).toList)).toArray e)) := by
  have hg := grownCap_le (w := w) need old e
  have hall := ho.append hn
  have hlen := hall.length
  simp only [List.length_append] at hlen
  refine new_ok (w := w.drew) (lo := 0) (hi := 0) h hsr.drew hf (.inr (Nat.le_refl _)) (by simp; omega) ?_ (fun ρ' h' => .row h' hg (.inl rfl) (fun b o n e' => ?_))
  · simp only
    rw [← List.append_assoc, List.take_append_of_le_length (by simp; omega), List.take_of_length_le (by simp; omega)]
    exact hall
  · cases e'
    refine ⟨?_, .inr rfl⟩
    simp only [List.size_toArray, List.length_append, Array.length_toList, zeroCells_size, hz]
    have e1 : need * sz + (grownCap w need old e - need) * sz = grownCap w need old e * sz := by rw [← Nat.add_mul]; congr 1; omega
    omega

theorem append_ok {ts : Array TypeId} {ty t u : TypeId} {a x v : Val} {y z : Value} (h : evAppend P t u a x s = some (v, s')) (hsr : SR ρ I s.mem w) (hf : Free ρ s s') (h0 : ts[0]? = some t) (h1 : ts[1]? = some u)
    (ha : VR ρ I a z) (hx : VR ρ I x y) : ∃ r w', (Builtin.append_ ts ty #[z, y]).run P w = .ok r w' ∧ Post ρ I s s' v r w' := by
  unfold evAppend at h
  simp only [bind_some, ofOpt_some, must_some] at h
  obtain ⟨elem, s0, ⟨hd, rfl⟩, int, s1, ⟨hint, rfl⟩, sz, s2, ⟨hk, rfl⟩, i, s3, ⟨hi, rfl⟩, zz, s4, ⟨hz, rfl⟩, n, s5, ⟨hn, rfl⟩, _, s6, ⟨hck, rfl⟩, h⟩ := h
  have hd := slice_some hd
  obtain ⟨i', hi', rfl⟩ := known_some hk
  rw [hi] at hi'
  obtain rfl := Option.some.inj hi'
  obtain ⟨i', zv, hi', hzv, rfl, ho⟩ := zero_some hz
  rw [hi] at hi'
  obtain rfl := Option.some.inj hi'
  simp only [Bool.and_eq_true, Bool.not_eq_true'] at hck
  obtain ⟨⟨⟨c0, c1⟩, c2⟩, c3⟩ := hck
  subst c0
  have c1 := Nat.le_of_ble_eq_true c1
  have c2 := Nat.le_of_ble_eq_true c2
  have hlen := srcLen_ok (P := P) (w := w) hn hx
  cases n with
  | zero =>
    simp only [pure_some, Prod.mk.injEq] at h
    obtain ⟨rfl, rfl⟩ := h
    have hsrc : (Builtin.firstCells i.size 0 y).run P w = .ok ([] : List Value).toArray w := by
      unfold srcLen at hn
      split at hn
      · cases hx; rw [firstCells_zero]
      · cases hx <;> rw [firstCells_zero]
      · cases hx; rw [firstCells_zero]
      · cases hx; simp [Builtin.firstCells]
      · rename_i str
        cases hx
        simp only [Option.some.injEq] at hn
        simp only [Builtin.firstCells, Sem.run_pure]
        congr 1
        apply Array.ext'
        simp
      · cases hn
    have here : ∀ a' sLen sCap, z = .slice (some a') sLen sCap → sLen ≤ sCap → (Builtin.append_ ts ty #[z, y]).run P w = .ok z w := by
      intro a' sLen sCap e hle
      subst e
      exact append_here h0 h1 hd hint hi hlen hsrc (by omega) rfl
    cases ha with
    | row g1 g2 g3 g4 => exact ⟨_, _, here _ _ _ rfl g2, .same hsr rfl (.row g1 g2 g3 g4)⟩
    | emp => exact ⟨_, _, here _ _ _ rfl (Nat.le_refl _), .same hsr rfl .emp⟩
    | froNil => exact ⟨_, _, here _ _ _ rfl (Nat.zero_le _), .same hsr rfl .froNil⟩
    | fro g1 g2 g3 g4 => exact ⟨_, _, here _ _ _ rfl g4, .same hsr rfl (.fro g1 g2 g3 g4)⟩
    | sc =>
      unfold isRow at c3
      split at c3 <;> first
        | (rename_i e; cases e; done)
        | skip
      · rename_i e
        cases e
        obtain ⟨d, hdu, hd'⟩ := isInt_ok hint
        refine ⟨.slice none 0 0, w, ?_, .same hsr rfl .sc⟩
        unfold Builtin.append_
        simp only [h0, h1, List.getElem?_toArray, List.getElem?_cons_zero, List.getElem?_cons_succ]
        rw [Sem.run_bind, underlying_ok hd]
        simp only [Result.andThen]
        rw [Sem.run_bind, sizeOf_ok hi]
        simp only [Result.andThen]
        rw [Sem.run_bind, underlying_ok hdu]
        simp only [Result.andThen]
        rw [Sem.run_bind, Sem.run_pure, andThen_bool]
        · simp [hlen, hsrc]
        · cases d <;> first | rfl | (simp [noInt] at hd')
      · cases c3
    | _ => cases c3
  | succ n =>
    simp only [bind_some, must_some] at h
    obtain ⟨new', s7, hsc, _, s8, ⟨hzl, hs8⟩, h⟩ := h
    subst hs8
    obtain ⟨news, hsrc, hnv, hnl, hm7, hx7⟩ := srcCells_ok (P := P) hsc hn c1 hsr hx
    simp only [Bool.and_eq_true] at hzl
    obtain ⟨hzl, hones⟩ := hzl
    have hzl := Nat.eq_of_beq_eq_true hzl
    have hzs : zv.cells.size = i.size := by rw [← hzl, (zero_cells (ρ := ρ) (I := I) ho).length]; simp
    have hsr7 : SR ρ I s8.mem w := hm7 ▸ hsr
    have hf7 : Free ρ s8 s' := by unfold Free at *; rw [hx7]; exact hf
    have back : ∀ {v r w'}, Post ρ I s8 s' v r w' → Post ρ I s6 s' v r w' := by
      intro v r w' hp
      unfold Post at *
      rw [hx7] at hp
      exact hp
    have hnl2 := hnv.length
    have emptyCase : ∀ (a' : Option Addr) (c : Nat) k, z = .slice a' 0 0 → n + 1 ≤ 1073741824 → Ev.new new' s8 = some (k, s') → v = .row k 0 (n + 1) i.size none → ∃ r w', (Builtin.append_ ts ty #[z, y]).run P w = .ok r w' ∧ Post ρ I s6 s' v r w' := by
      intro a' c k e hle hnew hv
      subst e hv
      have hp := grown_ok (e := elem) (need := n + 1) (old := 0) (cs := []) (olds := []) (sz := i.size) hnew hsr7 hf7 .nil hnv hzs (by simp; omega)
      refine ⟨_, _, ?_, back hp⟩
      have := append_there (P := P) (w := w) (ty := ty) (a := a') (sLen := 0) (sCap := 0) (olds := []) h0 h1 hd hint hi hzv hlen (hsrc _ rfl) (by
        cases a' with
        | none => simp [Builtin.firstCells]
        | some a' => rw [firstCells_zero]) (by omega) c2 (by omega)
      rw [Nat.zero_add] at this
      exact this
    unfold evGrow at h
    split at h
    · rename_i id off len sz' cap
      simp only [bind_some, must_some, get_some] at h
      obtain ⟨_, s9, ⟨hck, hs9⟩, b, s10, ⟨hb, hs10⟩, h⟩ := h
      subst hs10 hs9
      simp only [Bool.and_eq_true] at hck
      obtain ⟨d1, d2⟩ := hck
      have d1 := Nat.eq_of_beq_eq_true d1
      have d2 := Nat.le_of_ble_eq_true d2
      subst d1
      cases ha with
      | @row _ _ _ _ c _ ow ad g1 g2 g3 g4 =>
        obtain ⟨bb, o, m, hlive⟩ := hsr7.mem _ _ hb
        rw [g1] at hlive
        obtain rfl := Option.some.inj hlive
        obtain ⟨g5, g6⟩ := g4 _ _ _ rfl
        obtain ⟨b', hb', cells, elem', lo, hi', hw, hm, hfr, hol, hrs⟩ := hsr7.live _ _ _ _ g1
        rw [hb] at hb'
        obtain rfl := Option.some.inj hb'
        have hcl : cells.toList.length = cells.size := by simp
        have hsmall : len * i.size ≤ c * i.size := Nat.mul_le_mul_right _ g2
        have hold : ∀ w', w'.heap = w.heap → (Builtin.firstCells i.size len (.slice (some ad) len c)).run P w' = .ok ((cells.toList.drop (o + off)).take (len * i.size)).toArray w' := by
          intro w' hw'
          rcases g6 with g6 | g6
          · have h0 : len = 0 := by omega
            subst h0
            rw [firstCells_zero]
            simp
          · subst g6
            exact firstCells_ok (by rw [hw']; exact hw) (by omega)
        have room : len + (n + 1) ≤ c → o + off + len * i.size + news.length ≤ cells.size := by
          intro q1
          have := Nat.mul_le_mul_right i.size q1
          rw [Nat.add_mul] at this
          omega
        have here : ∀ (q1 : len + (n + 1) ≤ c), (Builtin.append_ ts ty #[.slice (some ad) len c, y]).run P w = .ok (.slice (some ad) (len + (n + 1)) c) (putRow w bb (.cells (spl cells.toList (o + off + len * i.size) news).toArray elem' (lo, hi'))) := by
          intro q1
          rcases g6 with g6 | g6
          · omega
          · subst g6
            refine append_here h0 h1 hd hint hi hlen (hsrc _ rfl) q1 ?_
            rw [add_none]
            have := storeCells_ok (P := P) (k := o + off + len * i.size) news 0 w cells hw (hnv.singles hones) (by have := room q1; omega) (by rw [hm]; exact hfr)
            simpa using this
        have there : ∀ {k : Nat} {old : List Val}, ¬ len + (n + 1) ≤ c → cut (len * i.size) off b = some old → ∀ s1, Ev.new (old ++ new') s1 = some (k, s') → ∀ ρ1, SR ρ1 I s1.mem w → Free ρ1 s1 s' → Le ρ ρ1 →
            ∃ w', (Builtin.append_ ts ty #[.slice (some ad) len c, y]).run P w = .ok (.slice (some ⟨w.heap.size, 0, none⟩) (len + (n + 1)) (grownCap w (len + (n + 1)) c elem)) w' ∧
              Post ρ1 I s1 s' (.row k 0 (len + (n + 1)) i.size none) (.slice (some ⟨w.heap.size, 0, none⟩) (len + (n + 1)) (grownCap w (len + (n + 1)) c elem)) w' := by
          intro k old q1 hc s1 hnew ρ1 hsr1 hf1 hle
          obtain ⟨e1, rfl, e3⟩ := cut_some hc
          have hov := (hrs.part e1).mono hle (.refl _)
          have e4 := hov.length
          exact ⟨_, append_there h0 h1 hd hint hi hzv hlen (hsrc _ rfl) (hold _ rfl) q1 c2 d2,
            grown_ok (e := elem) (need := len + (n + 1)) (old := c) hnew hsr1 hf1 hov (hnv.mono hle (.refl _)) hzs (by rw [Nat.add_mul]; omega)⟩
        cases cap with
        | some c' =>
          have : c' = c := by simpa using g3
          subst this
          simp only at h
          cases hcmp : Nat.ble (len + (n + 1)) c' with
          | true =>
            rw [hcmp] at h
            have q1 := Nat.le_of_ble_eq_true hcmp
            simp only [bind_some, ofOpt_some, pure_some, Prod.mk.injEq] at h
            obtain ⟨b', s11, ⟨hlay, hs11⟩, u', s12, hset, hr1, hr2⟩ := h
            subst hr1 hr2 hs11
            have := room q1
            have hp := set_ok (ρ := ρ) (I := I) (v := .row id off (len + (n + 1)) i.size (some c')) (x := .slice (some ad) (len + (n + 1)) c') hset hsr7 g1 hb hw (l := spl cells.toList (o + (off + len * i.size)) news)
              (by rw [spl_length (by omega)]; simp) (lay_some hlay).2.2 (hrs.lay hnv hlay (by omega)) (.row g1 q1 (.inr rfl) g4)
            rw [show o + (off + len * i.size) = o + off + len * i.size by omega] at hp
            exact ⟨_, _, here q1, back hp⟩
          | false =>
            rw [hcmp] at h
            simp only [bind_some, ofOpt_some, pure_some, Prod.mk.injEq] at h
            obtain ⟨old, s11, ⟨hc, hs11⟩, k, s12, hnew, hr1, hr2⟩ := h
            subst hr1 hr2 hs11
            have q1 : ¬ len + (n + 1) ≤ c' := fun q => by rw [Nat.ble_eq_true_of_le q] at hcmp; cases hcmp
            obtain ⟨w', hw1, hw2⟩ := there q1 hc _ hnew ρ hsr7 hf7 (.refl _)
            exact ⟨_, _, hw1, back hw2⟩
        | none =>
          simp only [bind_some, ofOpt_some, pure_some, must_some, kill_some, Prod.mk.injEq] at h
          obtain ⟨_, s11, ⟨hend, hs11⟩, old, s12, ⟨hc, hs12⟩, u', s13, ⟨_, hs13⟩, k, s14, hnew, hr1, hr2⟩ := h
          subst hr1 hr2 hs11 hs12
          have hend := Nat.eq_of_beq_eq_true hend
          have hk := new_some.1 hnew
          simp only [Prod.mk.injEq] at hk
          obtain ⟨hk1, hk2⟩ := hk
          have hs13m : s13.mem = del id s9.mem := by rw [hs13]
          have hs13n : s13.next = s9.next := by rw [hs13]
          have hkn : k = s9.next := by rw [hk1, hs13n]
          have hs'n : s'.next = s9.next + 1 := by rw [hk2, hs13n]
          have hkfree : ρ k = none := hf7 k (by omega) (by omega)
          have hkid : k ≠ id := fun e => by subst e; rw [hkfree] at g1; cases g1
          by_cases q1 : len + (n + 1) ≤ c
          · refine ⟨_, _, here q1, back ?_⟩
            obtain ⟨e1, e2, e3⟩ := cut_some hc
            have hov := hrs.part e1
            have hroom := room q1
            have hspl : (spl cells.toList (o + off + len * i.size) news).length = cells.toList.length := spl_length (by omega)
            have hov4 := hov.length
            have hov5 : old.length = ((cells.toList.drop (o + off)).take (len * i.size)).length := by rw [e2]; exact hov4
            have hv2 : VRs ρ I (old ++ new') (((spl cells.toList (o + off + len * i.size) news).drop (o + off)).take (old ++ new').length) := by
              have e5 : ((spl cells.toList (o + off + len * i.size) news).drop (o + off)).take (old ++ new').length = (cells.toList.drop (o + off)).take (len * i.size) ++ news := by
                apply List.ext_getElem?
                intro j
                rw [List.length_append]
                by_cases hj : j < old.length + new'.length
                · rw [List.getElem?_take_of_lt hj, List.getElem?_drop]
                  by_cases hj1 : j < len * i.size
                  · rw [spl_out (by omega) (by omega), List.getElem?_append_left (by omega), List.getElem?_take_of_lt hj1, List.getElem?_drop]
                  · rw [List.getElem?_append_right (by omega), show o + off + j = o + off + len * i.size + (j - len * i.size) by omega, spl_in (by omega) (by omega)]
                    congr 1
                    omega
                · rw [List.getElem?_eq_none (by rw [List.length_take]; omega), List.getElem?_eq_none (by rw [List.length_append]; omega)]
              rw [e5, e2]
              exact hov.append hnv
            have hmv := hsr7.move (o' := o + off) (k := k) (cs' := old ++ new') (l := spl cells.toList (o + off + len * i.size) news) g1 hkfree hw (by rw [hspl]; simp) (by simp; omega) hv2
            have hle : Le ρ ((ρ.add id .dead).add k (.live bb (o + off) m)) := Le.die.trans (Le.add (by unfold Rho.add; rw [if_neg hkid]; exact hkfree))
            refine ⟨_, I, hle, .refl _, ?_, .row (ow := .live bb (o + off) m) (if_pos rfl) q1 (.inl rfl) (fun b2 o2 n2 e => ?_), fun j hj => ?_⟩
            · rw [hk2]
              simp only
              rw [← hk1, hs13m]
              exact hmv
            · cases e
              refine ⟨by omega, ?_⟩
              rcases g6 with g6 | g6
              · exact .inl g6
              · exact .inr (by rw [g6]; rfl)
            · unfold Rho.add at hj
              split at hj
              · rename_i e; subst e; exact .inr ⟨by omega, by omega⟩
              · split at hj
                · rename_i e; subst e; exact .inl (by rw [g1]; simp)
                · exact .inl hj
          · have hkill := hsr7.kill id
            rw [← hs13m] at hkill
            have hfk : Free (ρ.add id .dead) s13 s' := by
              intro j j1 j2
              rw [hs13n] at j1
              have := hf7 j j1 j2
              unfold Rho.add
              rw [if_neg (fun e => by subst e; rw [g1] at this; cases this)]
              exact this
            obtain ⟨w', hw1, hw2⟩ := there q1 hc _ hnew _ hkill hfk Le.die
            refine ⟨_, _, hw1, back ?_⟩
            obtain ⟨ρ2, I2, p1, p2, p3, p4, p5⟩ := hw2
            refine ⟨ρ2, I2, Le.die.trans p1, p2, p3, p4, fun j hj => ?_⟩
            rcases p5 j hj with h | h
            · unfold Rho.add at h
              split at h
              · rename_i e; subst e; exact .inl (by rw [g1]; simp)
              · exact .inl h
            · rw [hs13n] at h
              exact .inr h
    · simp only [bind_some, must_some, pure_some, Prod.mk.injEq] at h
      obtain ⟨_, s9, ⟨hck, hs9⟩, k, s10, hnew, hr1, hr2⟩ := h
      subst hr1 hr2 hs9
      cases ha
      exact emptyCase _ 0 k rfl (Nat.le_of_ble_eq_true hck) hnew rfl
    · simp only [bind_some, must_some, pure_some, Prod.mk.injEq] at h
      obtain ⟨_, s9, ⟨hck, hs9⟩, k, s10, hnew, hr1, hr2⟩ := h
      subst hr1 hr2 hs9
      cases ha
      exact emptyCase _ 0 k rfl (Nat.le_of_ble_eq_true hck) hnew rfl
    · simp only [fail_some] at h
end
end Go.Proofs.Ytjgdcifbhmjinaa.Ev
