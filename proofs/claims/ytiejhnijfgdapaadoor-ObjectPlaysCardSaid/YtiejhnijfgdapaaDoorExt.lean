/- slices.Clone, slices.Delete: Go's own text of them is walked. -/
import Derived.Test.YtiejhnijfgdapaaDoorPx0
import Derived.Test.YtiejhnijfgdapaaDoorSlLib
import Derived.Deep.RegionLaw
import Derived.Shelf.RegionOpenPlain
import Derived.Lib.Walk
namespace Go.Proofs.YtiejhnijfgdapaaDoor.P
open Go Go.RowKit Go.Lib Go.Proofs.YtiejhnijfgdapaaDoorW.PrintWords Go.Proofs.YtiejhnijfgdapaaDoor
set_option linter.unusedVariables false
theorem ext_40.info : (Tryd.prog.info? 3).map (fun i => (i.zero, i.size, i.bytes)) = some (some (.int .i64 0), 1, 8) := by kernel_rfl
def ext_40.f (l : List (Int)) (a1 a2 : Int) : Option (List (Int)) := if 0 ≤ a1 ∧ a1 ≤ a2 ∧ a2 ≤ (l.length : Int) then some (l.take a1.toNat ++ l.drop a2.toNat) else none
theorem ext_40.zero (w : World) : (zeroValue 3).run Tryd.prog w = .ok (.int .i64 0) w := by kernel_rfl
set_option maxHeartbeats 4000000 in
set_option maxRecDepth 100000 in
theorem ext_40.same (A0 : Option Addr) (n c i : Nat) (hi : i ≤ n) (hc : n ≤ c) (w : World) : Calls Tryd.prog 40 #[.slice A0 n c, .int .i64 i, .int .i64 i] w fun e w' => e = .returned (.slice A0 n c) ∧ w' = w := by
  have hu := Tryd.underlying52
  obtain ⟨i0, hi0, hz0, hz1, hz2⟩ := info_parts ext_40.info
  go_enter Tryd.func40, Tryd.ntmps40
  go_wp2
  all_goals (go_ret; exact ⟨rfl, rfl⟩)
set_option maxHeartbeats 4000000 in
set_option maxRecDepth 1000000 in
theorem ext_40.less (g n cap i j : Nat) (hij : i < j) (hj : j ≤ n) (hcap : n ≤ cap) (hmax : cap ≤ maxLen) (cur : Array Value) (inner : List Value) (w : World) (hh : w.heap[g]? = some (.cells cur 3 (0, 0))) (hsz : cur.size = cap * 1) (htk : cur.toList.take (n * 1) = inner) (hil : inner.length = n * 1) (hone : ∀ u ∈ inner, u.oneCell' = true) :
    Calls Tryd.prog 40 #[.slice (some ⟨g, 0, none⟩) n cap, .int .i64 i, .int .i64 j] w fun e w' => e = .returned (.slice (some ⟨g, 0, none⟩) (n - (j - i)) cap) ∧ ∃ zs : List Value, zs.length = (j - i) * 1 ∧ w' = ((w.drew.setCells g (i * 1) (inner.drop (j * 1))).setCells g ((i + (n - j)) * 1) zs) := by
  have hu := Tryd.underlying52
  obtain ⟨i0, hi0, hz0, hz1, hz2⟩ := info_parts ext_40.info
  obtain ⟨news, hnews⟩ : ∃ news, news = inner.drop (j * 1) := ⟨_, rfl⟩
  have hlen : news.length = (n - j) * 1 := by rw [hnews, List.length_drop, hil, Nat.sub_mul]
  have hcell : ∀ t, t < n * 1 → w.cell? ⟨g, t, none⟩ = inner[t]? := by
    intro t ht
    rw [blk_cell hh t, ← htk, List.getElem?_take, if_pos ht, Array.getElem?_toList]
  have hn4 : j * 1 ≤ n * 1 := Nat.mul_le_mul_right _ hj
  obtain ⟨A, hA, hsrc⟩ : ∃ A : Addr, (if cap = j then some (⟨g, 0, none⟩ : Addr) else some ⟨g, j * 1, none⟩) = some A ∧ Hid (∀ t u, news[t]? = some u → w.drew.cell? (A.add t) = some u) := by
    by_cases h : cap = j
    · refine ⟨⟨g, 0, none⟩, by simp [h], fun t u hu => ?_⟩
      have h0 : news.length = 0 := by rw [hlen, show n - j = 0 by omega, Nat.zero_mul]
      rw [List.length_eq_zero_iff.1 h0] at hu
      simp at hu
    · refine ⟨⟨g, j * 1, none⟩, by simp [h], fun t u hu => ?_⟩
      have ht : t < (n - j) * 1 := by
        have := (List.getElem?_eq_some_iff.1 hu).1
        rwa [hlen] at this
      rw [hnews, List.getElem?_drop] at hu
      rw [Addr.add_lit]
      have := hcell (j * 1 + t) (by rw [Nat.sub_mul] at ht; omega)
      exact this.trans hu
  have s1 : Hid (news.length = (n - j) * 1) := hlen
  have s2 : Hid (∀ u ∈ news, u.oneCell' = true) := by
    intro u hu
    rw [hnews] at hu
    exact hone u (List.mem_of_mem_drop hu)
  have hin : ∀ t, t < n * 1 → (w.cell? ⟨g, t, none⟩).isSome = true ∧ w.frozen? ⟨g, t, none⟩ = false := by
    intro t ht
    exact ⟨by rw [hcell t ht, List.getElem?_eq_getElem (by rw [hil]; exact ht)]; rfl, blk_frozen hh t⟩
  have m1 : (i + (n - j)) * 1 + (j - i) * 1 = n * 1 := by rw [← Nat.add_mul]; congr 1; omega
  have m2 : i * 1 + (n - j) * 1 = (i + (n - j)) * 1 := by rw [Nat.add_mul]
  have s3 : Hid (∀ t, t < news.length → (w.drew.cell? ⟨g, 0 + i * 1 + t, none⟩).isSome = true ∧ w.drew.frozen? ⟨g, 0 + i * 1 + t, none⟩ = false) := by
    intro t ht
    rw [hlen] at ht
    exact hin _ (by omega)
  obtain ⟨W1, hW1⟩ : ∃ W1, W1 = w.drew.setCells g (0 + i * 1) news := ⟨_, rfl⟩
  have hhd : w.drew.heap[g]? = some (.cells cur 3 (0, 0)) := hh
  obtain ⟨cur1, h1, e1⟩ := SlLib.setCells_blk g 3 news (0 + i * 1) w.drew cur hhd (by rw [hlen, hsz]; have := Nat.mul_le_mul_right 1 hcap; omega)
  rw [← hW1] at h1
  have hc1 : cur1.size = cap * 1 := by
    rw [← Array.length_toList, e1]
    simp only [List.length_append, List.length_take, List.length_drop, Array.length_toList, hlen, hsz]
    have := Nat.mul_le_mul_right 1 hcap
    omega
  obtain ⟨zs, hzl, hcl⟩ : ∃ zs : List Value, zs.length = (n - (i + (n - j))) * 1 ∧ ∀ ty, (Builtin.clear_ #[52] ty #[.slice (some ⟨g, (i + (n - j)) * 1, none⟩) (n - (i + (n - j))) (cap - (i + (n - j)))]).run Tryd.prog W1 = .ok (.tuple #[]) (W1.setCells g ((i + (n - j)) * 1) zs) := by
    have hk : n - (i + (n - j)) = j - i := by omega
    refine ⟨(Builtin.zeroCells (.int .i64 0 : Value).cells (n - (i + (n - j)))).toList, by show (Builtin.zeroCells (.int .i64 0 : Value).cells _).toList.length = _; simp [Builtin.zeroCells]; first | done | rfl | (left; rfl) | omega | (simp [Value.cells]; done) | (simp [Value.cells]; omega), fun ty => ?_⟩
    have hk0 : 0 < n - (i + (n - j)) := by omega
    exact SlLib.run_clear_rows' (P := Tryd.prog) W1 52 3 ty (.int .i64 0) 1 hu ext_40.zero rfl (by decide) g ((i + (n - j)) * 1) (n - (i + (n - j))) (cap - (i + (n - j))) hk0 (fun t ht => by
      rw [blk_cell h1, Array.getElem?_eq_getElem (by rw [hk] at ht; rw [hc1]; have := Nat.mul_le_mul_right 1 hcap; omega)]; rfl) (fun t ht => blk_frozen h1 _)
  have X : Aside (zs.length = (j - i) * 1) := by show zs.length = _; rw [hzl]; congr 1; omega
  have hW : Hid (W1 = w.drew.setCells g (0 + i * 1) news) := hW1
  have hY0 : w.drew.setCells g (i * 1) (inner.drop (j * 1)) = W1 := by rw [← hnews, hW1, Nat.zero_add]
  have hY : Aside (w.drew.setCells g (i * 1) (inner.drop (j * 1)) = W1) := hY0
  clear hY0
  have hic : i ≤ cap := by omega
  have hjc : j ≤ cap := by omega
  clear hW1 h1 e1 hc1 hin hcell hhd hh hnews hlen hzl m1 m2 htk hil hone hsz
  simp only [Nat.mul_one] at hA hcl
  have mixed : Tryd.prog.follows .mixedOrders = true := by kernel_rfl
  go_enter Tryd.func40, Tryd.ntmps40
  go_wp2_with fail
  go_region_law_o (refine step_append_room rfl (.tmp 22) (.tmp 25) 52 rfl 3 i0 1 hu hi0 hz1 g 0 i cap (by simp [Act.eval, Act.put]) A (n - j) (cap - j) news (by simp [Act.eval, Act.put]) s1.out hsrc.out s2.out (by omega) s3.out ?_; rw [← hW.out])
  go_wp2
  go_ret
  refine ⟨by rw [show n - (j - i) = i + (n - j) by omega]; rfl, zs, X.out, ?_⟩
  rw [hY.out]; (try simp only [Nat.mul_one])
theorem ext_40.calls (P0_ : Nat → Prop) (u9000_ : Value) (l0 : List (Int)) (a1 : Int) (a2 : Int) (r : List (Int)) (w0 w : World) (hB : Below w0.heap.size w0 w) (ho0 : Kd.R (Kd.int .i64) 3 w w0.heap.size P0_ u9000_ l0) (h : ext_40.f l0 a1 a2 = some r) :
    Calls Tryd.prog 40 #[u9000_, .int .i64 a1, .int .i64 a2] w fun e w' => ∃ v0_ : Value, e = .returned (v0_) ∧ Kd.R (Kd.int .i64) 3 w' w0.heap.size (fun k_ => (P0_ k_ ∨ w.heap.size ≤ k_)) v0_ r ∧ Below w0.heap.size w0 w' ∧ Kept w w' (fun k_ => P0_ k_) := by
  unfold ext_40.f at h
  by_cases hc : 0 ≤ a1 ∧ a1 ≤ a2 ∧ a2 ≤ (l0.length : Int)
  · rw [if_pos hc] at h
    injection h with h
    subst h
    obtain ⟨h0, h1, h2⟩ := hc
    obtain ⟨i, rfl⟩ := Int.eq_ofNat_of_zero_le h0
    obtain ⟨j, rfl⟩ := Int.eq_ofNat_of_zero_le (Int.le_trans h0 h1)
    simp only [Int.toNat_natCast]
    have hij : i ≤ j := by omega
    have hj : j ≤ l0.length := by omega
    rcases Nat.eq_or_lt_of_le hij with he | hlt
    · subst he
      obtain ⟨A0, c, rfl, hlc, _⟩ := Kd.R_reads ho0
      refine (ext_40.same A0 l0.length c i hj hlc w).mono ?_
      rintro e w' ⟨rfl, rfl⟩
      exact ⟨_, rfl, by rw [List.take_append_drop]; exact Kd.R_mono ho0 (fun _ hk => .inl hk), hB, Kept.refl _ _⟩
    · obtain ⟨hok, inner, ⟨hil, hcase⟩, hr⟩ := ho0
      rcases hcase with ⟨rfl, hn⟩ | ⟨g, cap, cur, rfl, hb, hh, hnc, hmax, hsz, htk⟩
      · omega
      · have hone : ∀ u ∈ inner, u.oneCell' = true := by
          intro u hu
          obtain ⟨q, hq, rfl⟩ := List.mem_iff_getElem.1 hu
          have hq1 : inner.length = l0.length * 1 := hr.1
          have hq0 : q < l0.length * 1 := by rw [← hq1]; exact hq
          have hql : q / 1 < l0.length := by omega
          have hK := Kd.K_of_M _ (hr.2 (q / 1) _ (List.getElem?_eq_getElem hql))
          refine Kd.K_one _ hK _ ?_
          refine List.mem_iff_getElem?.2 ⟨q - q / 1 * 1, ?_⟩
          show ((inner.drop (q / 1 * 1)).take 1)[q - q / 1 * 1]? = _
          rw [List.getElem?_take, if_pos (by omega), List.getElem?_drop, show q / 1 * 1 + (q - q / 1 * 1) = q by omega, List.getElem?_eq_getElem hq]
        refine (ext_40.less g l0.length cap i j hlt hj hnc hmax cur inner w hh hsz htk hil hone).mono ?_
        rintro e w' ⟨rfl, zs, hzs, rfl⟩
        obtain ⟨hR, hG⟩ := SlLib.delete_R (Kd.int .i64) rfl (by decide) (w := w.drew) hb hh hnc hmax hsz htk hr (ok := P0_) (hok g (by simp [Value.ownBlock])) i j hlt hj zs hzs
        refine ⟨_, rfl, Kd.R_mono hR (fun _ hk => .inl hk), ?_, ?_⟩
        · exact hB.drew.grown hG hB.drew.size (by intro k hk; injection hk with hk; subst hk; exact hb)
        · exact Kept.of_grown hG (Kept.drew (Kept.refl _ _)) (by intro k hk; injection hk with hk; subst hk; exact .inl (hok g (by simp [Value.ownBlock])))
  · rw [if_neg hc] at h
    cases h

theorem ext_43.info : (Tryd.prog.info? 3).map (fun i => (i.zero, i.size, i.bytes)) = some (some (.int .i64 0), 1, 8) := by kernel_rfl
def ext_43.f (l : List (Int)) : Option (List (Int)) := if l.length < 4398046511104 then some l else none
set_option maxHeartbeats 4000000 in
set_option maxRecDepth 100000 in
theorem ext_43.calls (A0 : Option Addr) (c0 : Nat) (l0 : List (Int)) (r : List (Int)) (w : World) (hr0 : Kd.C (Kd.int .i64) w A0 l0.length l0) (hc0 : l0.length ≤ c0) (h : ext_43.f l0 = some r) :
    Calls Tryd.prog 43 #[.slice A0 l0.length c0] w fun e w' => ∃ v0_ : Value, e = .returned (v0_) ∧ Kd.R (Kd.int .i64) 3 w' w.heap.size (fun _ => True) v0_ r ∧ Below w.heap.size w w' := by
  unfold ext_43.f at h
  by_cases hl : l0.length < 4398046511104
  · rw [if_pos hl] at h
    injection h with h
    subst h
    have q0 : ∀ (w : World) (a : Option Addr) (n c n' c' : Nat), (binOp .eql 52 (.slice a n c) (.slice none n' c')).run Tryd.prog w = .ok (.bool a.isNone) w := fun w a n c n' c' => Lib.run_eql_slice_nil w _ _ a n c n' c' Tryd.underlying52
    cases A0 with
    | none =>
      have h0 : l0 = [] := by
        rcases Nat.eq_zero_or_pos l0.length with h1 | h1
        · exact List.eq_nil_of_length_eq_zero h1
        · obtain ⟨ad, e, _⟩ := hr0.2.2 h1
          cases e
      subst h0
      clear hr0
      have h1 : Calls Tryd.prog 43 #[.slice none ([] : List (Int)).length c0] w fun e w' => e = .returned (.slice none 0 0) ∧ w' = w := by
        go_enter Tryd.func43, Tryd.ntmps43
        go_wp2
        go_ret
        exact ⟨rfl, rfl⟩
      refine h1.mono ?_
      rintro e w' ⟨rfl, rfl⟩
      exact ⟨_, rfl, Kd.R_nil _ _ _ _ _, Below.refl _ _⟩
    | some ad =>
      have HR0 : Aside0 (Kd.C (Kd.int .i64) w (some ad) l0.length l0) := ⟨hr0⟩
      have HL := Aside0.mk hl
      clear hr0 hl
      go_enter Tryd.func43, Tryd.ntmps43
      go_wp2_with (go_loud (at_builtin; refine Kd.R_append_rows (Kd.int .i64) (w0 := w) w.heap.size rfl (.tmp 5) (.tmp 6) 52 3 (.int .i64 0) 8 rfl Tryd.underlying52 ext_43.info rfl (by decide) (by omega) (.slice (some ⟨w.heap.size, 0, none⟩) 0 0) ([] : List (Int)) l0 (some ad) l0.length c0 (fun _ => True) (fun _ => False) ?aE rfl ?aO ?aR (fun _ _ h => h) (fun _ h => h.elim) ?aF ?aB ?aS ?aL ?_))
      case aO => exact ⟨fun _ _ => trivial, [], World.ownsRow_made w #[] 0 (Nat.le_refl _) (Nat.zero_le _) (by first | rfl | simp), Reps.none _ _⟩
      case aR => exact Kd.C_alloc HR0.out _
      case aE => rfl
      case aF => exact fun _ _ => trivial
      case aB => exact below_alloc (Below.refl _ _) _
      case aS => exact (below_size (below_alloc (Below.refl _ _) _))
      case aL => have := HL.out; simp only [List.length_nil]; omega
      intro v1 w1 ho hb hg hat
      go_wp2
      go_ret
      exact ⟨_, rfl, by simpa using ho, hb⟩
  · rw [if_neg hl] at h
    cases h

end Go.Proofs.YtiejhnijfgdapaaDoor.P
