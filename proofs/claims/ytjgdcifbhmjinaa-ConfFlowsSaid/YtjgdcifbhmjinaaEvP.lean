/- The other operations on values and memory. -/
import Derived.Test.YtjgdcifbhmjinaaEvO
import Derived.Laws.MakeOwn
import Derived.Laws.Slices
namespace Go.Proofs.Ytjgdcifbhmjinaa.Ev
open Go

section
variable {P : Program} {ρ : Rho} {I : Im} {s s' : St} {w : World}

theorem zero_some {t : TypeId} {z : Val} (h : zeroV P t = some z) : ∃ i zv, P.info? t = some i ∧ i.zero = some zv ∧ z = ofV zv ∧ ones z.cells = true := by
  unfold zeroV at h
  cases hi : P.info? t with
  | none => rw [hi] at h; simp at h
  | some i =>
    rw [hi] at h
    simp only [Option.bind_some] at h
    cases hz : i.zero with
    | none => rw [hz] at h; simp at h
    | some zv =>
      rw [hz] at h
      simp only at h
      split at h
      · rename_i h1
        simp only [Option.some.injEq] at h
        subst h
        exact ⟨i, zv, rfl, hz, rfl, h1⟩
      · cases h
theorem zero_cells {zv : Value} (h : ones (ofV zv).cells = true) : VRs ρ I (ofV zv).cells zv.cells.toList := (VR.ofV zv).cells h

theorem evNew_ok {c : List Val} {cells : Array Value} {elem : TypeId} {v : Val} (h : evNew c s = some (v, s')) (hsr : SR ρ I s.mem w) (hf : Free ρ s s') (hv : VRs ρ I c cells.toList) :
    Post ρ I s s' v (.pointer (some ⟨w.heap.size, 0, none⟩)) (w.alloc (.cells cells elem)) := by
  unfold evNew at h
  simp only [bind_some, must_some, pure_some] at h
  obtain ⟨_, s0, ⟨ho, rfl⟩, id, s1, hn, hr⟩ := h
  simp only [Prod.mk.injEq] at hr
  obtain ⟨rfl, rfl⟩ := hr
  have hl := hv.length
  refine new_ok (lo := 0) (hi := 0) hn hsr hf (.inr (Nat.le_refl _)) (by rw [hl]; simp) (by rw [List.take_of_length_le (by rw [hl]; exact Nat.le_refl _)]; exact hv) (fun ρ' h' => .ref h' (fun b o n e => ?_))
  cases e
  rfl

theorem alloc_ok {t : TypeId} {z v : Val} (hz : zeroV P t = some z) (h : evNew z.cells s = some (v, s')) (hsr : SR ρ I s.mem w) (hf : Free ρ s s') :
    ∃ x w', (Instr.alloc t true (.tuple #[])).run P w = .ok x w' ∧ Post ρ I s s' v x w' := by
  obtain ⟨i, zv, hi, hzv, rfl, h1⟩ := zero_some hz
  refine ⟨_, _, ?_, evNew_ok (elem := t) h hsr hf (zero_cells h1)⟩
  simp [Instr.alloc, zeroValue, typeInfo, hi, hzv, newVar, newRow]

theorem ones_of_new {c : List Val} {v : Val} (h : evNew c s = some (v, s')) : ones c = true := by
  unfold evNew at h
  simp only [bind_some, must_some, pure_some] at h
  obtain ⟨_, s0, ⟨ho, rfl⟩, _⟩ := h
  exact ho

theorem box_ok {t : TypeId} {x : Val} {y : Value} {v : Val} (h : evNew x.cells s = some (v, s')) (hx : VR ρ I x y) (hsr : SR ρ I s.mem w) (hf : Free ρ s s') :
    ∃ x' w', (Instr.box t y).run P w = .ok x' w' ∧ Post ρ I s s' v x' w' := by
  refine ⟨_, _, ?_, evNew_ok (elem := t) h hsr hf (hx.cells (ones_of_new h))⟩
  simp [Instr.box, newVar, newRow]

theorem foldl_spl (off : Nat) : ∀ (l : List Value) (n : Nat) (cells : Array Value), off + n + l.length ≤ cells.size →
    (l.zipIdx n).foldl (fun cs (p : Value × Nat) => cs.setIfInBounds (off + p.2) p.1) cells = (spl cells.toList (off + n) l).toArray
  | [], n, cells, _ => by simp [spl_nil]
  | v :: l, n, cells, h => by
    simp only [List.length_cons] at h
    simp only [List.zipIdx_cons, List.foldl_cons]
    rw [foldl_spl off l (n + 1) _ (by simp; omega), ← spl_cons (by simpa using (by omega : off + n < cells.size))]
    simp [Nat.add_assoc]

/-- Parts that are filled in, on both sides. -/
theorem fill_ok {place place' : Nat → Option (Nat × Nat)} (hp : ∀ i r, place i = some r → place' i = some r) : ∀ (ps : List (Nat × Val)) (ps' : List (Nat × Value)) (cs out : List Val) (cells : Array Value), fillV place cs ps = some out →
    VRs ρ I cs cells.toList → ps.map (·.1) = ps'.map (·.1) → VRs ρ I (ps.map (·.2)) (ps'.map (·.2)) → ∃ out', Instr.fill place' cells ps' = some out' ∧ VRs ρ I out out'.toList
  | [], [], cs, out, cells, h, hv, _, _ => by
    simp only [fillV, Option.some.injEq] at h
    subst h
    exact ⟨cells, rfl, hv⟩
  | (i, v) :: ps, (j, x) :: ps', cs, out, cells, h, hv, h1, h2 => by
    simp only [List.map_cons, List.cons.injEq] at h1 h2
    obtain ⟨rfl, h1⟩ := h1
    cases h2 with
    | cons h2 h3 =>
      simp only [fillV] at h
      cases hpl : place i with
      | none => rw [hpl] at h; cases h
      | some r =>
        obtain ⟨off, size⟩ := r
        rw [hpl] at h
        simp only at h
        cases hck : Nat.beq v.cells.length size && ones v.cells with
        | false => rw [hck] at h; cases h
        | true =>
          rw [hck] at h
          simp only [Bool.and_eq_true] at hck
          have hsz := Nat.eq_of_beq_eq_true hck.1
          cases hlay : lay off v.cells cs with
          | none => rw [hlay] at h; cases h
          | some c =>
            rw [hlay] at h
            simp only at h
            have hc := h2.cells hck.2
            have hcl := hc.length
            have hvl := hv.length
            obtain ⟨l1, l2, l3⟩ := lay_some hlay
            have hv' : VRs ρ I cs ((cells.toList.drop 0).take cs.length) := by
              rw [List.drop_zero, List.take_of_length_le (by omega)]; exact hv
            have hr := hv'.lay hc hlay (by omega)
            rw [List.drop_zero, Nat.zero_add, List.take_of_length_le (by rw [spl_length (by omega)]; omega)] at hr
            obtain ⟨out', ho, hvo⟩ := fill_ok hp ps ps' c out (spl cells.toList off x.cells.toList).toArray h (by simpa using hr) h1 h3
            refine ⟨out', ?_, hvo⟩
            have hsize : x.cells.size = size := by rw [← hsz, hcl]; simp
            have hxl : x.cells.toList.length = x.cells.size := by simp
            have hcells : cells.toList.length = cells.size := by simp
            simp only [Instr.fill, hp _ _ hpl]
            rw [if_neg (by simp only [hsize]; simp; omega)]
            rw [← ho]
            congr 1
            have := foldl_spl off x.cells.toList 0 cells (by omega)
            rw [Nat.add_zero] at this
            rw [← this, ← Array.foldl_toList, Array.toList_zipIdx]
  | [], _ :: _, _, _, _, _, _, h1, _ => by simp at h1
  | _ :: _, [], _, _, _, _, _, h1, _ => by simp at h1

theorem mapM_ok {α β : Type} (f : α → Sem β) (g : α → β) : ∀ (l : List α), (∀ x ∈ l, (f x).run P w = .ok (g x) w) → (l.mapM f).run P w = .ok (l.map g) w
  | [], _ => rfl
  | x :: l, h => by
    simp only [List.mapM_cons, Sem.run_bind, h x List.mem_cons_self, Result.andThen, mapM_ok f g l (fun y hy => h y (List.mem_cons_of_mem _ hy)), Sem.run_pure, List.map_cons]
theorem arrayMapM_ok {α β : Type} (f : α → Sem β) (g : α → β) (l : Array α) (h : ∀ x ∈ l, (f x).run P w = .ok (g x) w) : (l.mapM f).run P w = .ok (l.map g) w := by
  rw [Array.mapM_eq_mapM_toList, Sem.run_map, mapM_ok f g l.toList (fun x hx => h x (by simpa using hx))]
  simp only [Result.andThen]
  congr 1
  apply Array.ext'
  simp

theorem build_ok {t : TypeId} {ps : List (Nat × Val)} {ps' : Array (Nat × Value)} {v : Val} (h : evBuild P t ps = some v) (h1 : ps.map (·.1) = ps'.toList.map (·.1)) (h2 : VRs ρ I (ps.map (·.2)) (ps'.toList.map (·.2))) :
    ∃ x, (Instr.build t ps').run P w = .ok x w ∧ VR ρ I v x := by
  unfold evBuild at h
  cases hz : zeroV P t with
  | none => rw [hz] at h; cases h
  | some z =>
    rw [hz] at h
    obtain ⟨i, zv, hi, hzv, rfl, ho⟩ := zero_some hz
    simp only [Option.bind_eq_bind, Option.bind_some] at h
    have hzc := zero_cells (ρ := ρ) (I := I) ho
    have hrun : (zeroValue t).run P w = .ok zv w := by simp [zeroValue, typeInfo, hi, hzv]
    split at h
    · rename_i fields hd
      cases hall : fields.toList.all fun f => (P.info? f.type).isSome with
      | false => rw [hall] at h; cases h
      | true =>
        rw [hall] at h
        simp only at h
        cases hfl : fillV (fieldPlaces P fields) (ofV zv).cells ps with
        | none => rw [hfl] at h; cases h
        | some cs =>
          rw [hfl] at h
          simp only [Option.some.injEq] at h
          subst h
          let g : Field → Nat × Nat := fun f => (f.offset, ((P.info? f.type).map (·.size)).getD 0)
          obtain ⟨out', ho', hvo⟩ := fill_ok (place' := ((fields.map g)[·]?)) (fun i r hr => by
            rw [Array.getElem?_map]
            unfold fieldPlaces at hr
            split at hr
            · rename_i f hf
              split at hr
              · rename_i n hn
                obtain ⟨i, hif, rfl⟩ := known_some hn
                simp only [Option.some.injEq] at hr
                subst hr
                simp [g, hif, hf]
              · cases hr
            · cases hr) ps ps'.toList _ cs zv.cells hfl hzc h1 h2
          refine ⟨.agg out', ?_, (.agg hvo : VR ρ I _ (.agg out'.toList.toArray))⟩
          have hm := arrayMapM_ok (P := P) (w := w) (fun f : Field => do pure (f.offset, ← sizeOf f.type)) g fields (fun f hf => by
            have := List.all_eq_true.1 hall f (by simpa using hf)
            obtain ⟨i, hif⟩ := Option.isSome_iff_exists.1 this
            simp [sizeOf_ok hif, g, hif])
          simp only [Instr.build, Sem.run_bind, hrun, Result.andThen, underlying_ok hd]
          simp only [hm, ho']
          rfl
    · rename_i len elem hd
      cases hk : knownSize P elem with
      | none => rw [hk] at h; cases h
      | some n =>
        rw [hk] at h
        simp only [Option.bind_some] at h
        cases hfl : fillV (fun i => some (i * n, n)) (ofV zv).cells ps with
        | none => rw [hfl] at h; cases h
        | some cs =>
          rw [hfl] at h
          simp only [Option.some.injEq] at h
          subst h
          obtain ⟨i', hie, rfl⟩ := known_some hk
          obtain ⟨out', ho', hvo⟩ := fill_ok (place' := fun i => some (i * i'.size, i'.size)) (fun _ _ h => h) ps ps'.toList _ cs zv.cells hfl hzc h1 h2
          refine ⟨.agg out', ?_, (.agg hvo : VR ρ I _ (.agg out'.toList.toArray))⟩
          simp only [Instr.build, Sem.run_bind, hrun, Result.andThen, underlying_ok hd]
          simp only [sizeOf_ok hie, ho']
          rfl
    · cases h

theorem rep_length (n : Nat) (l : List Val) : (rep n l).length = n * l.length := by
  induction n with
  | zero => simp [rep]
  | succ n ih => simp [rep, ih, Nat.succ_mul]; omega
theorem rep_ones {n : Nat} {l : List Val} (h : ones l = true) : ones (rep n l) = true := by
  induction n with
  | zero => rfl
  | succ n ih => exact ones_append h ih
/-- Zeros, one after the other. -/
theorem rep_made {l : List Val} {z : Array Value} (h : VRs ρ I l z.toList) (n : Nat) (_ : 0 < z.size) : VRs ρ I (rep n l) (madeCells z (n * z.size)).toList := by
  have hl : l.length = z.size := by rw [h.length]; simp
  induction n with
  | zero => simp only [rep, Nat.zero_mul]; exact VRs.of_get (by simp [madeCells]) (fun n u y h => by simp at h)
  | succ n ih =>
    have e : (madeCells z ((n + 1) * z.size)).toList = z.toList ++ (madeCells z (n * z.size)).toList := by
      apply List.ext_getElem?
      intro j
      have hs : z.toList.length = z.size := by simp
      by_cases hj : j < z.size
      · rw [List.getElem?_append_left (by omega)]
        have : j < (n + 1) * z.size := by rw [Nat.succ_mul]; omega
        simp [madeCells, this, hj, Nat.mod_eq_of_lt hj]
      · rw [List.getElem?_append_right (by omega), hs]
        have e1 : j % z.size = (j - z.size) % z.size := by
          conv => lhs; rw [show j = j - z.size + z.size by omega, Nat.add_mod_right]
        by_cases hj2 : j < (n + 1) * z.size
        · have h3 : j - z.size < n * z.size := by rw [Nat.succ_mul] at hj2; omega
          simp [madeCells, hj2, h3, e1]
        · have h3 : ¬ j - z.size < n * z.size := by rw [Nat.succ_mul] at hj2; omega
          simp [madeCells, hj2, h3]
    rw [e]
    exact h.append ih

theorem slice_some {t e : TypeId} (h : sliceOf P t = some e) : P.underlying t = some (.slice e) := by
  unfold sliceOf at h
  split at h
  · rename_i h1
    simp only [Option.some.injEq] at h
    subst h
    exact h1
  · cases h

theorem fill_length : ∀ (ps : List (Nat × Val)) (c d : List Val) (pl : Nat → Option (Nat × Nat)), fillV pl c ps = some d → d.length = c.length := by
  intro ps
  induction ps with
  | nil => intro c d pl h; simp only [fillV, Option.some.injEq] at h; rw [h]
  | cons p ps ih =>
    intro c d pl h
    obtain ⟨j, u⟩ := p
    simp only [fillV] at h
    split at h
    · cases h
    · split at h
      · split at h
        · rename_i hlay
          rw [ih _ _ _ h]
          exact (lay_some hlay).2.2
        · cases h
      · cases h

theorem buildSlice_ok {t : TypeId} {len : Nat} {ps : List (Nat × Val)} {ps' : Array (Nat × Value)} {v : Val} (h : evBuildSlice P t len ps s = some (v, s')) (hsr : SR ρ I s.mem w) (hf : Free ρ s s')
    (h1 : ps.map (·.1) = ps'.toList.map (·.1)) (h2 : VRs ρ I (ps.map (·.2)) (ps'.toList.map (·.2))) : ∃ x w', (Instr.buildSlice t len ps').run P w = .ok x w' ∧ Post ρ I s s' v x w' := by
  unfold evBuildSlice at h
  simp only [bind_some, ofOpt_some, must_some, pure_some] at h
  obtain ⟨elem, s0, ⟨hd, rfl⟩, n, s1, ⟨hn, rfl⟩, z, s2, ⟨hz, rfl⟩, _, s5, ⟨hck, rfl⟩, cs, s3, ⟨hfl, rfl⟩, k, s4, hnew, hr⟩ := h
  have hd := slice_some hd
  obtain ⟨i, hi, rfl⟩ := known_some hn
  obtain ⟨i', zv, hi', hzv, rfl, ho⟩ := zero_some hz
  rw [hi] at hi'
  obtain rfl := Option.some.inj hi'
  simp only [Bool.and_eq_true] at hck
  obtain ⟨⟨c1, c2⟩, c3⟩ := hck
  have c1 := Nat.eq_of_beq_eq_true c1
  have c2 := Nat.le_of_ble_eq_true c2
  have c3 := Nat.le_of_ble_eq_true c3
  simp only [Prod.mk.injEq] at hr
  obtain ⟨rfl, rfl⟩ := hr
  have hzc := zero_cells (ρ := ρ) (I := I) ho
  have hzs : zv.cells.size = i.size := by rw [← c1, hzc.length]; simp
  have hmade := rep_made hzc len (by omega)
  rw [hzs] at hmade
  obtain ⟨out', ho', hvo⟩ := fill_ok (place' := fun j => some (j * i.size, i.size)) (fun _ _ h => h) ps ps'.toList _ cs _ hfl hmade h1 h2
  have hol := hvo.length
  have hosz : out'.size = len * i.size := by
    have := fill_length _ _ _ _ hfl
    rw [rep_length, c1] at this
    simp at hol
    omega
  refine ⟨_, _, ?_, new_ok (v := .row k 0 len i.size (some len)) (x := .slice (some ⟨w.heap.size, 0, none⟩) len len) (lo := 0) (hi := 0) (elem := elem) (cells := out') hnew hsr hf (.inr (Nat.le_refl _)) (by rw [hol]; simp)
    (by rw [List.take_of_length_le (by rw [hol]; exact Nat.le_refl _)]; exact hvo) (fun ρ' h' => .row h' (Nat.le_refl _) (.inr rfl) (fun b o n e => ?_))⟩
  · have e1 : (Array.range (len * i.size)).map (zv.cells[· % zv.cells.size]!) = madeCells zv.cells (len * i.size) := rfl
    have e2 : len * i.size = 0 → (Array.range (len * i.size)).map ((#[] : Array Value)[· % (#[] : Array Value).size]!) = madeCells zv.cells (len * i.size) := by intro h0; rw [h0]; simp [madeCells]
    simp only [Instr.buildSlice, Sem.run_bind, underlying_ok hd, Result.andThen]
    simp only [sizeOf_ok hi]
    rw [if_neg (by omega)]
    by_cases h0 : len * i.size = 0
    · simp only [h0, if_true, Sem.run_bind, Sem.run_pure, Result.andThen]
      rw [h0] at e2 ho'
      rw [e2 rfl, ho']
      rfl
    · simp only [h0, if_false, Sem.run_bind, Sem.run_pure, Result.andThen]
      have hrun : (zeroValue elem).run P w = .ok zv w := by simp [zeroValue, typeInfo, hi, hzv]
      simp only [hrun, e1, ho']
      rfl
  · cases e
    exact ⟨by omega, .inr rfl⟩

theorem natOf_some {v : Val} {n : Nat} (h : natOf v = some n) : ∃ k, v = .sc (.int k (n : Nat)) := by
  unfold natOf at h
  split at h
  · simp only [Option.some.injEq] at h; subst h; exact ⟨_, rfl⟩
  · cases h

theorem makeSlice_ok {t : TypeId} {l c v : Val} {xl xc : Value} (h : evMakeSlice P t l c s = some (v, s')) (hsr : SR ρ I s.mem w) (hf : Free ρ s s') (hl : VR ρ I l xl) (hc : VR ρ I c xc) :
    ∃ x w', (Instr.makeSlice t xl xc).run P w = .ok x w' ∧ Post ρ I s s' v x w' := by
  unfold evMakeSlice at h
  simp only [bind_some, ofOpt_some, must_some, pure_some] at h
  obtain ⟨elem, s0, ⟨hd, rfl⟩, n, s1, ⟨hn, rfl⟩, i, s2, ⟨hi, rfl⟩, z, s3, ⟨hz, rfl⟩, nl, s4, ⟨hnl, rfl⟩, nc, s5, ⟨hnc, rfl⟩, _, s6, ⟨hck, rfl⟩, k, s7, hnew, hr⟩ := h
  have hd := slice_some hd
  obtain ⟨i', hi', rfl⟩ := known_some hn
  rw [hi] at hi'
  obtain rfl := Option.some.inj hi'
  obtain ⟨i', zv, hi', hzv, rfl, ho⟩ := zero_some hz
  rw [hi] at hi'
  obtain rfl := Option.some.inj hi'
  obtain ⟨kl, rfl⟩ := natOf_some hnl
  obtain ⟨kc, rfl⟩ := natOf_some hnc
  cases hl
  cases hc
  simp only [Bool.and_eq_true] at hck
  obtain ⟨⟨⟨⟨c1, c2⟩, c3⟩, c4⟩, c5⟩ := hck
  have c1 := Nat.eq_of_beq_eq_true c1
  have c2 := Nat.le_of_ble_eq_true c2
  have c3 := Nat.le_of_ble_eq_true c3
  have c4 := Nat.le_of_ble_eq_true c4
  have c5 := Nat.le_of_ble_eq_true c5
  simp only [Prod.mk.injEq] at hr
  obtain ⟨rfl, rfl⟩ := hr
  have hzc := zero_cells (ρ := ρ) (I := I) ho
  have hzs : zv.cells.size = i.size := by rw [← c1, hzc.length]; simp
  have hmade := rep_made hzc nc (by omega)
  rw [hzs] at hmade
  have hol := hmade.length
  refine ⟨_, _, run_make w t elem i zv hd hi hzv kl kc nl nc (by omega) (by omega) (by rw [← Int.natCast_mul]; exact Int.ofNat_le.2 c4) (by omega), new_ok (lo := 0) (hi := 0) (elem := elem) (cells := madeCells zv.cells (nc * i.size)) hnew hsr hf (.inr (Nat.le_refl _)) (by rw [hol]; simp)
    (by rw [List.take_of_length_le (by rw [hol]; exact Nat.le_refl _)]; exact hmade) (fun ρ' h' => ?_)⟩
  simp only [Int.toNat_natCast]
  refine .row h' c3 (.inr rfl) (fun b o n e => ?_)
  cases e
  exact ⟨by rw [size_madeCells]; omega, .inr rfl⟩

theorem fieldAddr_ok {t : TypeId} {x v : Val} {y : Value} {f : Nat} (h : evFieldAddr P t x f = some v) (hx : VR ρ I x y) : ∃ z, (Instr.fieldAt t y f).run P w = .ok z w ∧ VR ρ I v z := by
  unfold evFieldAddr at h
  split at h
  · rename_i fields hd
    split at h
    · rename_i fd hf
      split at h
      · rename_i m hk
        obtain ⟨i, hi, hs⟩ := known_some hk
        have hrun : ∀ a : Addr, (Instr.fieldAt t (.pointer (some a)) f).run P w = .ok (.pointer (some (a.add fd.offset))) w := by
          intro a
          simp only [Instr.fieldAt, Sem.run_bind, underlying_ok hd, Result.andThen]
          simp only [hf, Instr.sureAddr, fieldPlace]
          simp [sizeOf_ok hi, hs]
        cases hx with
        | @ref id off ow ad h1 h2 =>
          simp only [Option.some.injEq] at h
          subst h
          refine ⟨_, hrun _, .ref h1 (fun b o n e => ?_)⟩
          rw [h2 b o n e, add_none, Nat.add_assoc]
        | @fpt cs b off cells elem fr h1 h2 =>
          simp only [Option.some.injEq] at h
          subst h
          refine ⟨_, hrun _, ?_⟩
          rw [add_none]
          refine .fpt h1 ?_
          have := h2.drop fd.offset
          rw [List.drop_take, List.drop_drop] at this
          simpa using this
        | _ => cases h
      · cases h
    · cases h
  · cases h

theorem ESR.get {sz : Nat} {es : List (List Val)} {l : List Value} (h : ESR ρ I sz es l) {n : Nat} {e : List Val} (he : es[n]? = some e) : e.length = sz ∧ VRs ρ I e ((l.drop (n * sz)).take sz) := by
  induction es generalizing l n with
  | nil => simp at he
  | cons e0 es ih =>
    cases h with
    | econs h1 h2 h3 =>
      cases n with
      | zero => simp at he; subst he; simpa using ⟨h1, h2⟩
      | succ n =>
        have := ih h3 (by simpa using he)
        rw [List.drop_drop, show sz + n * sz = (n + 1) * sz by rw [Nat.succ_mul]; omega] at this
        exact this

theorem sizeIs_true {t : TypeId} {n : Nat} (h : sizeIs P t n = true) : ∃ i, P.info? t = some i ∧ i.size = n := by
  unfold sizeIs at h
  split at h
  · rename_i m hm
    obtain rfl := Nat.eq_of_beq_eq_true h
    exact known_some hm
  · cases h

theorem indexAddr_ok {t : TypeId} {x i v : Val} {y j : Value} (h : evIndexAddr P t x i = some v) (hx : VR ρ I x y) (hi : VR ρ I i j) : ∃ z, (Instr.indexAt t y j).run P w = .ok z w ∧ VR ρ I v z := by
  unfold evIndexAddr at h
  split at h
  · cases h
  · rename_i n hn
    obtain ⟨k, rfl⟩ := natOf_some hn
    cases hi
    split at h
    · rename_i elem id off len sz cap hd
      cases hx with
      | @row _ _ _ _ c _ ow ad h1 h2 h3 h4 =>
        cases hck : Nat.ble (n + 1) len && sizeIs P elem sz with
        | false => rw [hck] at h; cases h
        | true =>
          rw [hck] at h
          simp only [Option.some.injEq] at h
          subst h
          simp only [Bool.and_eq_true] at hck
          have c1 := Nat.le_of_ble_eq_true hck.1
          obtain ⟨ie, hie, hs⟩ := sizeIs_true hck.2
          refine ⟨.pointer (some (ad.add (n * sz))), ?_, .ref h1 (fun b o m e => ?_)⟩
          · simp only [Instr.indexAt, asIntOf, Sem.run_bind, Sem.run_pure, Result.andThen, underlying_ok hd]
            rw [if_pos ⟨by omega, by omega⟩]
            simp [sizeOf_ok hie, hs]
          · obtain ⟨_, h6 | h6⟩ := h4 b o m e
            · omega
            · rw [h6, add_none, Nat.add_assoc]
    · rename_i elem es hd
      cases he : es[n]? with
      | none => rw [he] at h; cases h
      | some cs =>
        rw [he] at h
        simp only [Option.bind_some] at h
        cases hck : sizeIs P elem cs.length with
        | false => rw [hck] at h; cases h
        | true =>
          rw [hck] at h
          simp only [Option.some.injEq] at h
          subst h
          obtain ⟨ie, hie, hs⟩ := sizeIs_true hck
          have hlt := (List.getElem?_eq_some_iff.1 he).1
          cases hx with
          | froNil => simp at hlt
          | @fro es b off c sz len cells elem' fr h1 h2 h3 h4 =>
            obtain ⟨e1, e2⟩ := h2.get he
            refine ⟨.pointer (some ((⟨b, off, none⟩ : Addr).add (n * ie.size))), ?_, ?_⟩
            · simp only [Instr.indexAt, asIntOf, Sem.run_bind, Sem.run_pure, Result.andThen, underlying_ok hd]
              rw [if_pos ⟨by omega, by omega⟩]
              simp [sizeOf_ok hie]
            · rw [add_none]
              refine .fpt h1 ?_
              rw [List.drop_drop] at e2
              rw [e1, hs, e1]
              exact e2
    · rename_i len elem id off hd
      cases hck : Nat.ble (n + 1) len with
      | false => rw [hck] at h; cases h
      | true =>
        rw [hck] at h
        simp only [Option.map_eq_some_iff] at h
        obtain ⟨m, hm, rfl⟩ := h
        obtain ⟨ie, hie, hs⟩ := known_some hm
        have c1 := Nat.le_of_ble_eq_true hck
        cases hx with
        | @ref _ _ ow ad h1 h2 =>
          refine ⟨.pointer (some (ad.add (n * ie.size))), ?_, .ref h1 (fun b o q e => ?_)⟩
          · simp only [Instr.indexAt, asIntOf, Sem.run_bind, Sem.run_pure, Result.andThen, underlying_ok hd, Instr.sureAddr]
            rw [if_pos ⟨by omega, by omega⟩]
            simp [sizeOf_ok hie]
          · rw [h2 b o q e, add_none, Nat.add_assoc, hs]
    · rename_i len elem cs hd
      cases hck : Nat.ble (n + 1) len with
      | false => rw [hck] at h; cases h
      | true =>
        rw [hck] at h
        simp only [Option.map_eq_some_iff] at h
        obtain ⟨m, hm, rfl⟩ := h
        obtain ⟨ie, hie, hs⟩ := known_some hm
        have c1 := Nat.le_of_ble_eq_true hck
        cases hx with
        | @fpt _ b off cells elem' fr h1 h2 =>
          refine ⟨.pointer (some ((⟨b, off, none⟩ : Addr).add (n * ie.size))), ?_, ?_⟩
          · simp only [Instr.indexAt, asIntOf, Sem.run_bind, Sem.run_pure, Result.andThen, underlying_ok hd, Instr.sureAddr]
            rw [if_pos ⟨by omega, by omega⟩]
            simp [sizeOf_ok hie]
          · rw [add_none]
            refine .fpt h1 ?_
            have := h2.drop (n * m)
            rw [List.drop_take, List.drop_drop] at this
            rw [hs]
            simpa using this
    · cases h

theorem part_ok {t : TypeId} {cs : List Val} {l : List Value} {r : Nat × Bool} {off : Nat} {cs' : List Val} {v : Val} (hr : shape? P t = some r) (hc : cut r.1 off cs = some cs') (hv : shut r.2 cs' = some v) (h : VRs ρ I cs l) :
    ∃ z, (part t l.toArray off).run P w = .ok z w ∧ VR ρ I v z := by
  obtain ⟨d, i, hd, hi, hr2, hr1⟩ := shape_some hr
  obtain ⟨hn, rfl, hl⟩ := cut_some hc
  have hlen := h.length
  rw [hr2] at hv
  unfold part
  simp only [Sem.run_bind, isAgg_ok t hd, Result.andThen]
  cases ha : aggD d with
  | true =>
    rw [ha] at hv hr1
    simp only [shut, Option.some.injEq] at hv
    subst hv
    simp only [if_true] at hr1
    refine ⟨_, ?_, .agg ((h.drop off).take r.1)⟩
    simp only [if_true, Sem.run_bind, sizeOf_ok hi, Result.andThen, Sem.run_pure, ← hr1]
    congr 2
    apply Array.ext'
    simp
  | false =>
    rw [ha] at hv hr1
    simp only [Bool.false_eq_true, if_false] at hr1
    rw [hr1] at hv hl hn
    cases hd1 : cs.drop off with
    | nil => rw [hd1] at hl; simp at hl
    | cons u us =>
      rw [hd1] at hv
      simp only [shut, List.take_succ_cons, List.take_zero, Option.some.injEq] at hv
      subst hv
      have hu : cs[off]? = some u := by
        have := congrArg (·[0]?) hd1
        simpa using this
      obtain ⟨y, hy, hvr⟩ := h.get hu
      refine ⟨y, ?_, hvr⟩
      simp [hy]

theorem field_ok {t : TypeId} {x v : Val} {y : Value} {f : Nat} (h : evField P t x f = some v) (hx : VR ρ I x y) : ∃ z, (Instr.field t y f).run P w = .ok z w ∧ VR ρ I v z := by
  unfold evField at h
  split at h
  · rename_i fields hd
    split at h
    · rename_i fd cs hf
      cases hr : shape? P fd.type with
      | none => rw [hr] at h; cases h
      | some r =>
        rw [hr] at h
        simp only [Option.bind_eq_bind, Option.bind_some] at h
        cases hc : cut r.1 fd.offset cs with
        | none => rw [hc] at h; cases h
        | some cs' =>
          rw [hc] at h
          simp only [Option.bind_some] at h
          cases hx with
          | agg hx =>
            obtain ⟨z, hz, hvr⟩ := part_ok (P := P) (w := w) hr hc h hx
            refine ⟨z, ?_, hvr⟩
            simp only [Instr.field, Sem.run_bind, underlying_ok hd, Result.andThen, hf, asAgg, Sem.run_pure]
            exact hz
    · cases h
  · cases h

theorem index_ok {t : TypeId} {x i v : Val} {y j : Value} (h : evIndex P t x i = some v) (hx : VR ρ I x y) (hi : VR ρ I i j) : ∃ z, (Instr.index t y j).run P w = .ok z w ∧ VR ρ I v z := by
  unfold evIndex at h
  split at h
  · cases h
  · rename_i n hn
    obtain ⟨k, rfl⟩ := natOf_some hn
    cases hi
    split at h
    · rename_i len elem cs hd
      cases hck : Nat.ble (n + 1) len with
      | false => rw [hck] at h; cases h
      | true =>
        rw [hck] at h
        simp only at h
        have c1 := Nat.le_of_ble_eq_true hck
        cases hk : knownSize P elem with
        | none => rw [hk] at h; cases h
        | some m =>
          rw [hk] at h
          simp only [Option.bind_eq_bind, Option.bind_some] at h
          obtain ⟨ie, hie, hs⟩ := known_some hk
          cases hr : shape? P elem with
          | none => rw [hr] at h; cases h
          | some r =>
            rw [hr] at h
            simp only [Option.bind_some] at h
            cases hc : cut r.1 (n * m) cs with
            | none => rw [hc] at h; cases h
            | some cs' =>
              rw [hc] at h
              simp only [Option.bind_some] at h
              cases hx with
              | agg hx =>
                obtain ⟨z, hz, hvr⟩ := part_ok (P := P) (w := w) hr hc h hx
                refine ⟨z, ?_, hvr⟩
                simp only [Instr.index, asIntOf, Sem.run_bind, Sem.run_pure, Result.andThen, underlying_ok hd]
                rw [if_pos ⟨by omega, by omega⟩]
                simp only [Sem.run_bind, sizeOf_ok hie, Result.andThen, Int.toNat_natCast, hs]
                exact hz
    · cases h

/-- An operand that may not be there. -/
inductive OR (ρ : Rho) (I : Im) : Option Val → Option Value → Prop
  | none : OR ρ I none none
  | some {v : Val} {x : Value} : VR ρ I v x → OR ρ I (some v) (some x)
theorem optNat_some {v : Option Val} {x : Option Value} {n : Option Nat} (h : optNat v = some n) (hx : OR ρ I v x) : (n = none ∧ v = none ∧ x = none) ∨ ∃ m k, n = some m ∧ v.isSome = true ∧ x = some (.int k (m : Nat)) := by
  cases hx with
  | none => simp only [optNat, Option.some.injEq] at h; exact .inl ⟨h.symm, rfl, rfl⟩
  | some hx =>
    simp only [optNat] at h
    split at h
    · rename_i m hm
      obtain ⟨k, rfl⟩ := natOf_some hm
      cases hx
      simp only [Option.some.injEq] at h
      exact .inr ⟨m, k, h.symm, rfl, rfl⟩
    · cases h
end
end Go.Proofs.Ytjgdcifbhmjinaa.Ev
