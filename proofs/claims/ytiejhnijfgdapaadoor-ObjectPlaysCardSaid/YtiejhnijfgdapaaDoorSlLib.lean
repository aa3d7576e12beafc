/- What several library functions over rows of structs share: a run of cells that is written into one's own row; clear; no program in sight. -/
import Derived.Test.YtiejhnijfgdapaaDoorGoto
import Derived.Test.YtiejhnijfgdapaaDoorWKept
import Derived.Lib.SliceRun
import Derived.ArgAppend
import Derived.Laws.IdiomCopy
namespace Go.Proofs.YtiejhnijfgdapaaDoor.SlLib
open Go Go.RowKit Go.Lib Go.Proofs.YtiejhnijfgdapaaDoorW.PrintWords
set_option linter.unusedVariables false
theorem setCells_size (b : Nat) : ∀ (vs : List Value) (o : Nat) (w : World), (w.setCells b o vs).heap.size = w.heap.size
  | [], _, _ => rfl
  | v :: r, o, w => by
    rw [World.setCells, setCells_size b r]
    simp [World.setCell]
theorem setCells_os (b : Nat) : ∀ (vs : List Value) (o : Nat) (w : World), (w.setCells b o vs).os = w.os ∧ (w.setCells b o vs).tape = w.tape ∧ (w.setCells b o vs).output = w.output
  | [], _, _ => ⟨rfl, rfl, rfl⟩
  | v :: r, o, w => by
    rw [World.setCells]
    exact setCells_os b r (o + 1) _
theorem setCells_far (b : Nat) : ∀ (vs : List Value) (o : Nat) (w : World) (k : Nat), k ≠ b → (w.setCells b o vs).heap[k]? = w.heap[k]?
  | [], _, _, _, _ => rfl
  | v :: r, o, w, k, h => by
    rw [World.setCells, setCells_far b r (o + 1) _ k h]
    exact Below.heap_setCell w ⟨b, o, none⟩ v k h
theorem setCells_grown (b : Nat) (vs : List Value) (o : Nat) (w : World) : w.grownBy (w.setCells b o vs) (some b) := by
  obtain ⟨h1, h2, h3⟩ := setCells_os b vs o w
  exact ⟨h1, h2, h3, Nat.le_of_eq (setCells_size b vs o w).symm, fun k _ hk => setCells_far b vs o w k (fun e => hk (by rw [e]))⟩
theorem setCells_blk (b : Nat) (t : TypeId) : ∀ (vs : List Value) (o : Nat) (w : World) (cur : Array Value), w.heap[b]? = some (.cells cur t (0, 0)) → o + vs.length ≤ cur.size →
    ∃ cur', (w.setCells b o vs).heap[b]? = some (.cells cur' t (0, 0)) ∧ cur'.toList = cur.toList.take o ++ vs ++ cur.toList.drop (o + vs.length)
  | [], o, w, cur, h, _ => ⟨cur, h, by simp⟩
  | v :: r, o, w, cur, h, hs => by
    have hl : o + 1 + r.length ≤ cur.size := by simp at hs; omega
    obtain ⟨cur', h', he⟩ := setCells_blk b t r (o + 1) (w.setCell ⟨b, o, none⟩ v) (cur.setIfInBounds o v) (blk_set h o v) (by simpa using hl)
    refine ⟨cur', h', ?_⟩
    rw [he]
    have ho : o < cur.toList.length := by simp; omega
    simp only [Array.toList_setIfInBounds, List.length_cons]
    rw [List.set_eq_take_append_cons_drop, if_pos ho]
    rw [List.take_append, List.drop_append]
    simp only [List.length_take, Nat.min_eq_left (Nat.le_of_lt ho)]
    rw [List.take_of_length_le (by simp; omega), show o + 1 - o = 1 by omega, List.drop_eq_nil_of_le (as := cur.toList.take o) (by simp; omega)]
    simp only [List.take_succ_cons, List.take_zero, List.nil_append, List.append_assoc, List.cons_append]
    rw [show o + 1 + r.length - o = r.length + 1 by omega, List.drop_succ_cons, List.drop_drop]
    rw [show o + 1 + r.length = o + (r.length + 1) by omega]
/-- clear of a slice of structs: zero cells. -/
theorem run_clear_rows' {P : Program} (w : World) (t e ty : TypeId) (z : Value) (sz : Nat) (ht : P.underlying t = some (.slice e)) (hv : ∀ w, (zeroValue e).run P w = .ok z w) (hz : z.cells.size = sz) (h1 : ∀ u ∈ z.cells, u.oneCell' = true) (b o n c : Nat) (hn : 0 < n)
    (hc : ∀ j, j < n * sz → (w.cell? ⟨b, o + j, none⟩).isSome = true) (hf : ∀ j, j < n * sz → w.frozen? ⟨b, o + j, none⟩ = false) :
    (Builtin.clear_ #[t] ty #[.slice (some ⟨b, o, none⟩) n c]).run P w = .ok (.tuple #[]) (w.setCells b o (Builtin.zeroCells z.cells n).toList) := by
  have hlen : (Builtin.zeroCells z.cells n).toList.length = n * sz := by simp [Builtin.zeroCells, hz]
  have hone : ∀ v ∈ (Builtin.zeroCells z.cells n).toList, v.oneCell' = true := by
    intro v hv'
    simp only [Builtin.zeroCells, Array.toList_map, List.mem_map, Array.mem_toList_iff, Array.mem_range] at hv'
    obtain ⟨i, hi, rfl⟩ := hv'
    have hp : 0 < z.cells.size := by
      rcases Nat.eq_zero_or_pos z.cells.size with h | h
      · rw [h] at hi; simp at hi
      · exact h
    rw [getElem!_pos z.cells (i % z.cells.size) (Nat.mod_lt _ hp)]
    exact h1 _ (Array.getElem_mem _)
  have hst := run_storeCells_cells (P := P) b o (Builtin.zeroCells z.cells n).toList 0 w (by rw [hlen]; simpa using hc) (by rw [hlen]; simpa using hf) hone
  simp only [Nat.add_zero] at hst
  obtain ⟨m, rfl⟩ : ∃ m, n = m + 1 := ⟨n - 1, by omega⟩
  simp [Builtin.clear_, run_underlying ht, hv, hst]
/-- The rows' cells behind 'append(s[:i], s[j:]...)' and 'clear': the row, without what was taken out. -/
theorem delete_R {α : Type} (d : Kd α) (hE : d.E = []) (hs0 : 0 < d.sz) {e base g cap : Nat} {w : World} {ok : Nat → Prop} {l : List α} {cur : Array Value} {inner : List Value} (hb : base ≤ g) (hh : w.heap[g]? = some (.cells cur e (0, 0))) (hcap : l.length ≤ cap) (hmax : cap ≤ maxLen) (hsz : cur.size = cap * d.sz) (htk : cur.toList.take (l.length * d.sz) = inner)
    (hr : Reps (d.M w base (fun k => ok k ∧ some k ≠ (Value.slice (some ⟨g, 0, none⟩) l.length cap).ownBlock)) d.sz l inner) (hok : ok g) (i j : Nat) (hij : i < j) (hj : j ≤ l.length) (zs : List Value) (hzs : zs.length = (j - i) * d.sz) :
    let W := ((w.setCells g (i * d.sz) (inner.drop (j * d.sz))).setCells g ((i + (l.length - j)) * d.sz) zs)
    d.R e W base ok (.slice (some ⟨g, 0, none⟩) (l.length - (j - i)) cap) (l.take i ++ l.drop j) ∧ w.grownBy W (some g) := by
  intro W
  have hil : inner.length = l.length * d.sz := hr.1
  have m1 : i * d.sz ≤ l.length * d.sz := Nat.mul_le_mul_right _ (by omega)
  have m2 : j * d.sz ≤ l.length * d.sz := Nat.mul_le_mul_right _ hj
  have m3 : l.length * d.sz ≤ cap * d.sz := Nat.mul_le_mul_right _ hcap
  have m4 : i * d.sz + (l.length * d.sz - j * d.sz) = (i + (l.length - j)) * d.sz := by rw [Nat.add_mul, Nat.sub_mul]
  have m5 : (i + (l.length - j)) * d.sz + (j - i) * d.sz = l.length * d.sz := by rw [← Nat.add_mul]; congr 1; omega
  have m6 : l.length - (j - i) = i + (l.length - j) := by omega
  obtain ⟨cur1, h1, e1⟩ := setCells_blk g e (inner.drop (j * d.sz)) (i * d.sz) w cur hh (by rw [List.length_drop, hil, hsz]; omega)
  have hsz1 : cur1.size = cap * d.sz := by
    rw [← Array.length_toList, e1]
    simp only [List.length_append, List.length_take, List.length_drop, Array.length_toList, hil, hsz]
    omega
  obtain ⟨cur2, h2, e2⟩ := setCells_blk g e zs ((i + (l.length - j)) * d.sz) _ cur1 h1 (by rw [hzs, hsz1]; omega)
  have hsz2 : cur2.size = cap * d.sz := by
    rw [← Array.length_toList, e2]
    simp only [List.length_append, List.length_take, List.length_drop, Array.length_toList, hzs, hsz1]
    omega
  have hin1 : cur1.toList.take ((i + (l.length - j)) * d.sz) = inner.take (i * d.sz) ++ inner.drop (j * d.sz) := by
    have hA : (cur.toList.take (i * d.sz)).length = i * d.sz := by rw [List.length_take, show cur.toList.length = cap * d.sz from hsz ▸ Array.length_toList]; omega
    have hB : (inner.drop (j * d.sz)).length = l.length * d.sz - j * d.sz := by rw [List.length_drop, hil]
    rw [e1, List.take_append_of_le_length (by rw [List.length_append, hA, hB]; omega), List.take_of_length_le (by rw [List.length_append, hA, hB]; omega)]
    congr 1
    rw [← htk, List.take_take, Nat.min_eq_left m1]
  have hin : cur2.toList.take ((l.length - (j - i)) * d.sz) = inner.take (i * d.sz) ++ inner.drop (j * d.sz) := by
    have hA : (cur1.toList.take ((i + (l.length - j)) * d.sz)).length = (i + (l.length - j)) * d.sz := by rw [List.length_take, show cur1.toList.length = cap * d.sz from hsz1 ▸ Array.length_toList]; omega
    rw [m6, e2, List.append_assoc, List.take_append_of_le_length (by omega), List.take_of_length_le (by omega), hin1]
  have hlen : (l.take i ++ l.drop j).length = l.length - (j - i) := by simp; omega
  have hg1 : w.grownBy W (some g) := by
    have q1 := setCells_grown g (inner.drop (j * d.sz)) (i * d.sz) w
    have q2 := setCells_grown g zs ((i + (l.length - j)) * d.sz) (w.setCells g (i * d.sz) (inner.drop (j * d.sz)))
    exact ⟨q2.os.trans q1.os, q2.tape.trans q1.tape, q2.output.trans q1.output, Nat.le_trans q1.size q2.size, fun k hk hn => (q2.block k (Nat.lt_of_lt_of_le hk q1.size) hn).trans (q1.block k hk hn)⟩
  refine ⟨⟨fun k hk => ?_, inner.take (i * d.sz) ++ inner.drop (j * d.sz), ⟨?_, .inr ⟨g, cap, cur2, by rw [hlen], hb, h2, by rw [hlen]; omega, hmax, hsz2, by rw [hlen]; exact hin⟩⟩, ?_⟩, hg1⟩
  · have : g = k := by simpa [Value.ownBlock] using hk
    rw [← this]; exact hok
  · rw [hlen, m6, List.length_append, List.length_take, List.length_drop, hil, ← m4]; omega
  · have hM : ∀ p c, d.M w base (fun k => ok k ∧ some k ≠ (Value.slice (some ⟨g, 0, none⟩) l.length cap).ownBlock) p c → d.M W base (fun k => ok k ∧ some k ≠ (Value.slice (some ⟨g, 0, none⟩) (l.length - (j - i)) cap).ownBlock) p c := by
      intro p c hp
      have hb0 := d.M_bound hp
      refine d.M_mono (fun k hk => ?_) (d.M_move (w1 := W) (fun k hk => ?_) hb0)
      · obtain ⟨_, _, _, q, hq, _⟩ := hk; rw [hE] at hq; cases hq
      · obtain ⟨_, _, _, q, hq, _⟩ := hk; rw [hE] at hq; cases hq
    refine ⟨by rw [hlen, m6, List.length_append, List.length_take, List.length_drop, hil, ← m4]; omega, fun q p hp => ?_⟩
    have hA : (inner.take (i * d.sz)).length = i * d.sz := by rw [List.length_take, hil]; omega
    have hB : (l.take i).length = i := by rw [List.length_take]; omega
    rcases Nat.lt_or_ge q i with hq | hq
    · rw [List.getElem?_append_left (by omega), List.getElem?_take, if_pos hq] at hp
      have h0 := hM _ _ (hr.2 q p hp)
      have hq1 : q * d.sz + d.sz ≤ i * d.sz := by rw [← Nat.succ_mul]; exact Nat.mul_le_mul_right _ hq
      rw [List.drop_append_of_le_length (by omega), List.take_append_of_le_length (by rw [List.length_drop]; omega), List.drop_take, List.take_take, Nat.min_eq_left (by omega)]
      exact h0
    · rw [List.getElem?_append_right (by omega), hB, List.getElem?_drop] at hp
      have h0 := hM _ _ (hr.2 _ p hp)
      have hq1 : i * d.sz ≤ q * d.sz := Nat.mul_le_mul_right _ hq
      rw [List.drop_append, List.drop_eq_nil_of_le (by omega), List.nil_append, List.drop_drop, hA]
      have : j * d.sz + (q * d.sz - i * d.sz) = (j + (q - i)) * d.sz := by rw [Nat.add_mul, Nat.sub_mul]
      rw [this]
      exact h0
end Go.Proofs.YtiejhnijfgdapaaDoor.SlLib
