/- slices.Clone, slices.Delete: Go's own text of them is walked. -/
import Derived.Test.YtpbcamdjcnokfaaPx0
import Derived.Test.YtpbcamdjcnokfaaSlLib
import Derived.Deep.RegionLaw
import Derived.Shelf.RegionOpenPlain
import Derived.Lib.Walk
namespace Go.Proofs.Ytpbcamdjcnokfaa.P
open Go Go.RowKit Go.Lib Go.Proofs.YtpbcamdjcnokfaaW.PrintWords Go.Proofs.Ytpbcamdjcnokfaa
set_option linter.unusedVariables false
theorem ext_53.info : (Try.prog.info? 63).map (fun i => (i.zero, i.size, i.bytes)) = some (some ((.agg #[(.int .i64 0), (.int .i64 0)])), 2, 16) := by kernel_rfl
def ext_53.f (l : List (S63)) (a1 a2 : Int) : Option (List (S63)) := if 0 ≤ a1 ∧ a1 ≤ a2 ∧ a2 ≤ (l.length : Int) then some (l.take a1.toNat ++ l.drop a2.toNat) else none
theorem ext_53.zero (w : World) : (zeroValue 63).run Try.prog w = .ok ((.agg #[(.int .i64 0), (.int .i64 0)])) w := by kernel_rfl
set_option maxHeartbeats 4000000 in
set_option maxRecDepth 100000 in
theorem ext_53.same (A0 : Option Addr) (n c i : Nat) (hi : i ≤ n) (hc : n ≤ c) (w : World) : Calls Try.prog 53 #[.slice A0 n c, .int .i64 i, .int .i64 i] w fun e w' => e = .returned (.slice A0 n c) ∧ w' = w := by
  have hu := Try.underlying67
  obtain ⟨i0, hi0, hz0, hz1, hz2⟩ := info_parts ext_53.info
  go_enter Try.func53, Try.ntmps53
  go_wp2
  all_goals (go_ret; exact ⟨rfl, rfl⟩)
set_option maxHeartbeats 4000000 in
set_option maxRecDepth 1000000 in
theorem ext_53.less (g n cap i j : Nat) (hij : i < j) (hj : j ≤ n) (hcap : n ≤ cap) (hmax : cap ≤ maxLen) (cur : Array Value) (inner : List Value) (w : World) (hh : w.heap[g]? = some (.cells cur 63 (0, 0))) (hsz : cur.size = cap * 2) (htk : cur.toList.take (n * 2) = inner) (hil : inner.length = n * 2) (hone : ∀ u ∈ inner, u.oneCell' = true) :
    Calls Try.prog 53 #[.slice (some ⟨g, 0, none⟩) n cap, .int .i64 i, .int .i64 j] w fun e w' => e = .returned (.slice (some ⟨g, 0, none⟩) (n - (j - i)) cap) ∧ ∃ zs : List Value, zs.length = (j - i) * 2 ∧ w' = ((w.drew.setCells g (i * 2) (inner.drop (j * 2))).setCells g ((i + (n - j)) * 2) zs) := by
  have hu := Try.underlying67
  obtain ⟨i0, hi0, hz0, hz1, hz2⟩ := info_parts ext_53.info
  obtain ⟨news, hnews⟩ : ∃ news, news = inner.drop (j * 2) := ⟨_, rfl⟩
  have hlen : news.length = (n - j) * 2 := by rw [hnews, List.length_drop, hil, Nat.sub_mul]
  have hcell : ∀ t, t < n * 2 → w.cell? ⟨g, t, none⟩ = inner[t]? := by
    intro t ht
    rw [blk_cell hh t, ← htk, List.getElem?_take, if_pos ht, Array.getElem?_toList]
  have hn4 : j * 2 ≤ n * 2 := Nat.mul_le_mul_right _ hj
  obtain ⟨A, hA, hsrc⟩ : ∃ A : Addr, (if cap = j then some (⟨g, 0, none⟩ : Addr) else some ⟨g, j * 2, none⟩) = some A ∧ Hid (∀ t u, news[t]? = some u → w.drew.cell? (A.add t) = some u) := by
    by_cases h : cap = j
    · refine ⟨⟨g, 0, none⟩, by simp [h], fun t u hu => ?_⟩
      have h0 : news.length = 0 := by rw [hlen, show n - j = 0 by omega, Nat.zero_mul]
      rw [List.length_eq_zero_iff.1 h0] at hu
      simp at hu
    · refine ⟨⟨g, j * 2, none⟩, by simp [h], fun t u hu => ?_⟩
      have ht : t < (n - j) * 2 := by
        have := (List.getElem?_eq_some_iff.1 hu).1
        rwa [hlen] at this
      rw [hnews, List.getElem?_drop] at hu
      rw [Addr.add_lit]
      have := hcell (j * 2 + t) (by rw [Nat.sub_mul] at ht; omega)
      exact this.trans hu
  have s1 : Hid (news.length = (n - j) * 2) := hlen
  have s2 : Hid (∀ u ∈ news, u.oneCell' = true) := by
    intro u hu
    rw [hnews] at hu
    exact hone u (List.mem_of_mem_drop hu)
  have hin : ∀ t, t < n * 2 → (w.cell? ⟨g, t, none⟩).isSome = true ∧ w.frozen? ⟨g, t, none⟩ = false := by
    intro t ht
    exact ⟨by rw [hcell t ht, List.getElem?_eq_getElem (by rw [hil]; exact ht)]; rfl, blk_frozen hh t⟩
  have m1 : (i + (n - j)) * 2 + (j - i) * 2 = n * 2 := by rw [← Nat.add_mul]; congr 1; omega
  have m2 : i * 2 + (n - j) * 2 = (i + (n - j)) * 2 := by rw [Nat.add_mul]
  have s3 : Hid (∀ t, t < news.length → (w.drew.cell? ⟨g, 0 + i * 2 + t, none⟩).isSome = true ∧ w.drew.frozen? ⟨g, 0 + i * 2 + t, none⟩ = false) := by
    intro t ht
    rw [hlen] at ht
    exact hin _ (by omega)
  obtain ⟨W1, hW1⟩ : ∃ W1, W1 = w.drew.setCells g (0 + i * 2) news := ⟨_, rfl⟩
  have hhd : w.drew.heap[g]? = some (.cells cur 63 (0, 0)) := hh
  obtain ⟨cur1, h1, e1⟩ := SlLib.setCells_blk g 63 news (0 + i * 2) w.drew cur hhd (by rw [hlen, hsz]; have := Nat.mul_le_mul_right 2 hcap; omega)
  rw [← hW1] at h1
  have hc1 : cur1.size = cap * 2 := by
    rw [← Array.length_toList, e1]
    simp only [List.length_append, List.length_take, List.length_drop, Array.length_toList, hlen, hsz]
    have := Nat.mul_le_mul_right 2 hcap
    omega
  obtain ⟨zs, hzl, hcl⟩ : ∃ zs : List Value, zs.length = (n - (i + (n - j))) * 2 ∧ ∀ ty, (Builtin.clear_ #[67] ty #[.slice (some ⟨g, (i + (n - j)) * 2, none⟩) (n - (i + (n - j))) (cap - (i + (n - j)))]).run Try.prog W1 = .ok (.tuple #[]) (W1.setCells g ((i + (n - j)) * 2) zs) := by
    have hk : n - (i + (n - j)) = j - i := by omega
    refine ⟨(Builtin.zeroCells ((.agg #[(.int .i64 0), (.int .i64 0)]) : Value).cells (n - (i + (n - j)))).toList, by show (Builtin.zeroCells ((.agg #[(.int .i64 0), (.int .i64 0)]) : Value).cells _).toList.length = _; simp [Builtin.zeroCells]; first | done | rfl | (left; rfl), fun ty => ?_⟩
    have hk0 : 0 < n - (i + (n - j)) := by omega
    exact SlLib.run_clear_rows' (P := Try.prog) W1 67 63 ty ((.agg #[(.int .i64 0), (.int .i64 0)])) 2 hu ext_53.zero rfl (by decide) g ((i + (n - j)) * 2) (n - (i + (n - j))) (cap - (i + (n - j))) hk0 (fun t ht => by
      rw [blk_cell h1, Array.getElem?_eq_getElem (by rw [hk] at ht; rw [hc1]; have := Nat.mul_le_mul_right 2 hcap; omega)]; rfl) (fun t ht => blk_frozen h1 _)
  have X : Aside (zs.length = (j - i) * 2) := by show zs.length = _; rw [hzl]; congr 1; omega
  have hW : Hid (W1 = w.drew.setCells g (0 + i * 2) news) := hW1
  have hY0 : w.drew.setCells g (i * 2) (inner.drop (j * 2)) = W1 := by rw [← hnews, hW1, Nat.zero_add]
  have hY : Aside (w.drew.setCells g (i * 2) (inner.drop (j * 2)) = W1) := hY0
  clear hY0
  have hic : i ≤ cap := by omega
  have hjc : j ≤ cap := by omega
  clear hW1 h1 e1 hc1 hin hcell hhd hh hnews hlen hzl m1 m2 htk hil hone hsz
  have mixed : Try.prog.follows .mixedOrders = true := by kernel_rfl
  go_enter Try.func53, Try.ntmps53
  go_wp2_with fail
  go_region_law_o (refine step_append_room rfl (.tmp 22) (.tmp 25) 67 rfl 63 i0 2 hu hi0 hz1 g 0 i cap (by simp [Act.eval, Act.put]) A (n - j) (cap - j) news (by simp [Act.eval, Act.put]) s1.out hsrc.out s2.out (by omega) s3.out ?_; rw [← hW.out])
  go_wp2
  go_ret
  refine ⟨by rw [show n - (j - i) = i + (n - j) by omega]; rfl, zs, X.out, ?_⟩
  rw [hY.out]
theorem ext_53.calls (P0_ : Nat → Prop) (u9000_ : Value) (l0 : List (S63)) (a1 : Int) (a2 : Int) (r : List (S63)) (w0 w : World) (hB : Below w0.heap.size w0 w) (ho0 : Kd.R (k63) 63 w w0.heap.size P0_ u9000_ l0) (h : ext_53.f l0 a1 a2 = some r) :
    Calls Try.prog 53 #[u9000_, .int .i64 a1, .int .i64 a2] w fun e w' => ∃ v0_ : Value, e = .returned (v0_) ∧ Kd.R (k63) 63 w' w0.heap.size (fun k_ => (P0_ k_ ∨ w.heap.size ≤ k_)) v0_ r ∧ Below w0.heap.size w0 w' ∧ Kept w w' (fun k_ => P0_ k_) := by
  unfold ext_53.f at h
  by_cases hc : 0 ≤ a1 ∧ a1 ≤ a2 ∧ a2 ≤ (l0.length : Int)
  · rw [if_pos hc] at h
    injection h with h
    subst h
    obtain ⟨h0, h1, h2⟩ := hc
    obtain ⟨i, rfl⟩ := Int.eq_ofNat_of_zero_le h0
    obtain ⟨j, rfl⟩ := Int.eq_ofNat_of_zero_le (Int.le_trans h0 h1)
    simp only [Int.toNat_natCast]
    have hij : i ≤ j := by omega
    have hj : j ≤ l0.length := by omega
    rcases Nat.eq_or_lt_of_le hij with he | hlt
    · subst he
      obtain ⟨A0, c, rfl, hlc, _⟩ := Kd.R_reads ho0
      refine (ext_53.same A0 l0.length c i hj hlc w).mono ?_
      rintro e w' ⟨rfl, rfl⟩
      exact ⟨_, rfl, by rw [List.take_append_drop]; exact Kd.R_mono ho0 (fun _ hk => .inl hk), hB, Kept.refl _ _⟩
    · obtain ⟨hok, inner, ⟨hil, hcase⟩, hr⟩ := ho0
      rcases hcase with ⟨rfl, hn⟩ | ⟨g, cap, cur, rfl, hb, hh, hnc, hmax, hsz, htk⟩
      · omega
      · have hone : ∀ u ∈ inner, u.oneCell' = true := by
          intro u hu
          obtain ⟨q, hq, rfl⟩ := List.mem_iff_getElem.1 hu
          have hq1 : inner.length = l0.length * 2 := hr.1
          have hq0 : q < l0.length * 2 := by rw [← hq1]; exact hq
          have hql : q / 2 < l0.length := by omega
          have hK := Kd.K_of_M _ (hr.2 (q / 2) _ (List.getElem?_eq_getElem hql))
          refine Kd.K_one _ hK _ ?_
          refine List.mem_iff_getElem?.2 ⟨q - q / 2 * 2, ?_⟩
          show ((inner.drop (q / 2 * 2)).take 2)[q - q / 2 * 2]? = _
          rw [List.getElem?_take, if_pos (by omega), List.getElem?_drop, show q / 2 * 2 + (q - q / 2 * 2) = q by omega, List.getElem?_eq_getElem hq]
        refine (ext_53.less g l0.length cap i j hlt hj hnc hmax cur inner w hh hsz htk hil hone).mono ?_
        rintro e w' ⟨rfl, zs, hzs, rfl⟩
        obtain ⟨hR, hG⟩ := SlLib.delete_R (k63) rfl (by decide) (w := w.drew) hb hh hnc hmax hsz htk hr (ok := P0_) (hok g (by simp [Value.ownBlock])) i j hlt hj zs hzs
        refine ⟨_, rfl, Kd.R_mono hR (fun _ hk => .inl hk), ?_, ?_⟩
        · exact hB.drew.grown hG hB.drew.size (by intro k hk; injection hk with hk; subst hk; exact hb)
        · exact Kept.of_grown hG (Kept.drew (Kept.refl _ _)) (by intro k hk; injection hk with hk; subst hk; exact .inl (hok g (by simp [Value.ownBlock])))
  · rw [if_neg hc] at h
    cases h

end Go.Proofs.Ytpbcamdjcnokfaa.P
