/- Unlike rows of what is seen have unlike texts: plain Lean over the texts' bytes. -/
import Derived.Test.YtlmllmbbdlkknaaDoorTxt
import Derived.Test.YtlmllmbbdlkknaaDoorSam
namespace Go.Proofs.YtlmllmbbdlkknaaDoor.P
open Go Go.RowKit Go.Proofs.YtlmllmbbdlkknaaDoorW.PrintWords Go.Proofs.YtlmllmbbdlkknaaDoorW.PrintLast
theorem cut_inj {s : UInt8} : ∀ {u u' v v' : List UInt8}, s ∉ u → s ∉ u' → u ++ s :: v = u' ++ s :: v' → u = u' ∧ v = v'
  | [], [], v, v', _, _, h => by simpa using h
  | [], b :: u', v, v', _, h2, h => by
    simp only [List.nil_append, List.cons_append, List.cons.injEq] at h
    exact absurd (h.1 ▸ List.mem_cons_self) h2
  | b :: u, [], v, v', h1, _, h => by
    simp only [List.nil_append, List.cons_append, List.cons.injEq] at h
    exact absurd (h.1 ▸ List.mem_cons_self) h1
  | b :: u, c :: u', v, v', h1, h2, h => by
    simp only [List.cons_append, List.cons.injEq] at h
    obtain ⟨rfl, h⟩ := h
    obtain ⟨rfl, rfl⟩ := cut_inj (fun hm => h1 (List.mem_cons_of_mem _ hm)) (fun hm => h2 (List.mem_cons_of_mem _ hm)) h
    exact ⟨rfl, rfl⟩
theorem dig_byte {u : Nat} (h : u < 10) : (UInt8.ofNat (48 + u)).toNat = 48 + u := by
  rw [UInt8.toNat_ofNat']
  omega
theorem digF_mem : ∀ (n u : Nat), u < 10 ^ (n + 1) → ∀ b ∈ digF n u, 48 ≤ b.toNat ∧ b.toNat ≤ 57
  | 0, u, h, b, hb => by
    have h : u < 10 := by simpa using h
    obtain rfl := List.mem_singleton.1 hb
    rw [dig_byte h]
    omega
  | n + 1, u, h, b, hb => by
    unfold digF at hb
    split at hb
    · rename_i h1
      obtain rfl := List.mem_singleton.1 hb
      rw [dig_byte h1]
      omega
    · rcases List.mem_append.1 hb with hb | hb
      · exact digF_mem n (u / 10) (by rw [Nat.pow_succ] at h; omega) b hb
      · obtain rfl := List.mem_singleton.1 hb
        rw [dig_byte (Nat.mod_lt _ (by decide))]
        omega
def valD (l : List UInt8) : Nat := l.foldl (fun a b => a * 10 + (b.toNat - 48)) 0
theorem valD_digF : ∀ (n u : Nat), u < 10 ^ (n + 1) → valD (digF n u) = u
  | 0, u, h => by
    have h : u < 10 := by simpa using h
    simp only [valD, digF, List.foldl_cons, List.foldl_nil]
    rw [dig_byte h]
    omega
  | n + 1, u, h => by
    unfold digF
    split
    · rename_i h1
      simp only [valD, List.foldl_cons, List.foldl_nil]
      rw [dig_byte h1]
      omega
    · have ih := valD_digF n (u / 10) (by rw [Nat.pow_succ] at h; omega)
      unfold valD at ih ⊢
      rw [List.foldl_append, ih]
      simp only [List.foldl_cons, List.foldl_nil]
      rw [dig_byte (Nat.mod_lt _ (by decide))]
      omega
theorem p20 : (10 : Nat) ^ (19 + 1) = 100000000000000000000 := by decide
theorem in64_iff {x : Int} : in64 x = true ↔ -9223372036854775808 ≤ x ∧ x ≤ 9223372036854775807 := by
  unfold in64
  rw [Bool.and_eq_true, decide_eq_true_eq, decide_eq_true_eq]
theorem itoaF_mem {x : Int} (h : in64 x = true) : ∀ b ∈ itoaF x, b = 45 ∨ (48 ≤ b.toNat ∧ b.toNat ≤ 57) := by
  intro b hb
  have h := in64_iff.1 h
  have p := p20
  unfold itoaF at hb
  split at hb
  · rcases List.mem_cons.1 hb with hb | hb
    · exact .inl hb
    · exact .inr (digF_mem 19 _ (by omega) b hb)
  · exact .inr (digF_mem 19 _ (by omega) b hb)
theorem itoaF_no {x : Int} (h : in64 x = true) {s : UInt8} (hs : s = 10 ∨ s = 32) : s ∉ itoaF x := by
  intro hm
  rcases itoaF_mem h s hm with e | ⟨e, _⟩
  · subst e
    rcases hs with hs | hs <;> exact absurd hs (by decide)
  · rcases hs with hs | hs <;> subst hs <;> exact absurd e (by decide)
theorem digF_head (n u : Nat) (h : u < 10 ^ (n + 1)) (l : List UInt8) : 45 :: l ≠ digF n u := by
  intro e
  have := digF_mem n u h 45 (e ▸ List.mem_cons_self)
  exact absurd this.1 (by decide)
theorem itoaF_inj {x y : Int} (hx : in64 x = true) (hy : in64 y = true) (h : itoaF x = itoaF y) : x = y := by
  have hx := in64_iff.1 hx
  have hy := in64_iff.1 hy
  have p := p20
  unfold itoaF at h
  by_cases h1 : x < 0
  · by_cases h2 : y < 0
    · rw [if_pos h1, if_pos h2, List.cons.injEq] at h
      have e := congrArg valD h.2
      rw [valD_digF 19 _ (by omega), valD_digF 19 _ (by omega)] at e
      omega
    · rw [if_pos h1, if_neg h2] at h
      exact absurd h (digF_head 19 _ (by omega) _)
  · by_cases h2 : y < 0
    · rw [if_neg h1, if_pos h2] at h
      exact absurd h.symm (digF_head 19 _ (by omega) _)
    · rw [if_neg h1, if_neg h2] at h
      have e := congrArg valD h
      rw [valD_digF 19 _ (by omega), valD_digF 19 _ (by omega)] at e
      omega
/-- Is it one that a machine makes? -/
def seenB (o : S35) : Bool := o.f1 == 2 || (o.f1 == 1 && (o.f3 == 0 && (o.f4 == 0 && o.f5 == 0)))
theorem line1 {o : S35} (h : o.f1 = 1) : lineL o = itoaF o.f0 ++ 32 :: ([114, 117, 110] ++ 32 :: itoaF o.f2) := by
  unfold lineL
  rw [if_pos h]
  simp
theorem line2 {o : S35} (h : o.f1 = 2) : lineL o = itoaF o.f0 ++ 32 :: ([114, 101, 112, 108, 121] ++ 32 :: (itoaF o.f2 ++ 32 :: (itoaF o.f3 ++ 32 :: (itoaF o.f4 ++ 32 :: itoaF o.f5)))) := by
  unfold lineL
  rw [if_neg (by omega), if_pos h]
  simp
theorem okO_parts {o : S35} (h : okO o = true) : in64 o.f0 = true ∧ in64 o.f2 = true ∧ in64 o.f3 = true ∧ in64 o.f4 = true ∧ in64 o.f5 = true := by
  unfold okO at h
  simp only [Bool.and_eq_true] at h
  exact ⟨h.1.1.1.1, h.1.1.1.2, h.1.1.2, h.1.2, h.2⟩
theorem lineL_no {o : S35} (h : okO o = true) : (10 : UInt8) ∉ lineL o := by
  obtain ⟨h0, h2, h3, h4, h5⟩ := okO_parts h
  have n0 := itoaF_no h0 (s := 10) (.inl rfl)
  have n2 := itoaF_no h2 (s := 10) (.inl rfl)
  have n3 := itoaF_no h3 (s := 10) (.inl rfl)
  have n4 := itoaF_no h4 (s := 10) (.inl rfl)
  have n5 := itoaF_no h5 (s := 10) (.inl rfl)
  unfold lineL
  split
  · simp [n0, n2]
  · split
    · simp [n0, n2, n3, n4, n5]
    · simp
theorem lineL_inj {o p : S35} (ho : okO o = true) (hp : okO p = true) (so : seenB o = true) (sp : seenB p = true) (h : lineL o = lineL p) : oRow o = oRow p := by
  obtain ⟨a0, a2, a3, a4, a5⟩ := okO_parts ho
  obtain ⟨b0, b2, b3, b4, b5⟩ := okO_parts hp
  have no : ∀ {x : Int}, in64 x = true → (32 : UInt8) ∉ itoaF x := fun hx => itoaF_no hx (.inr rfl)
  have w1 : (32 : UInt8) ∉ ([114, 117, 110] : List UInt8) := by decide
  have w2 : (32 : UInt8) ∉ ([114, 101, 112, 108, 121] : List UInt8) := by decide
  unfold seenB at so sp
  simp only [Bool.or_eq_true, Bool.and_eq_true, beq_iff_eq] at so sp
  unfold oRow
  rcases so with so | ⟨so, s3, s4, s5⟩
  · rcases sp with sp | ⟨sp, t3, t4, t5⟩
    · rw [line2 so, line2 sp] at h
      obtain ⟨e0, h⟩ := cut_inj (no a0) (no b0) h
      obtain ⟨_, h⟩ := cut_inj w2 w2 h
      obtain ⟨e2, h⟩ := cut_inj (no a2) (no b2) h
      obtain ⟨e3, h⟩ := cut_inj (no a3) (no b3) h
      obtain ⟨e4, h⟩ := cut_inj (no a4) (no b4) h
      rw [itoaF_inj a0 b0 e0, itoaF_inj a2 b2 e2, itoaF_inj a3 b3 e3, itoaF_inj a4 b4 e4, itoaF_inj a5 b5 h, so, sp]
    · rw [line2 so, line1 sp] at h
      obtain ⟨e0, h⟩ := cut_inj (no a0) (no b0) h
      obtain ⟨e1, _⟩ := cut_inj w2 w1 h
      exact absurd e1 (by decide)
  · rcases sp with sp | ⟨sp, t3, t4, t5⟩
    · rw [line1 so, line2 sp] at h
      obtain ⟨e0, h⟩ := cut_inj (no a0) (no b0) h
      obtain ⟨e1, _⟩ := cut_inj w1 w2 h
      exact absurd e1 (by decide)
    · rw [line1 so, line1 sp] at h
      obtain ⟨e0, h⟩ := cut_inj (no a0) (no b0) h
      obtain ⟨_, h⟩ := cut_inj w1 w1 h
      rw [itoaF_inj a0 b0 e0, itoaF_inj a2 b2 h, so, sp, s3, s4, s5, t3, t4, t5]
theorem textL_cons (o : S35) (l : List S35) : textL (o :: l) = lineL o ++ 10 :: textL l := by
  simp [textL]
theorem textL_inj : ∀ (a b : List S35), a.all okO = true → b.all okO = true → a.all seenB = true → b.all seenB = true → textL a = textL b → a.map oRow = b.map oRow
  | [], [], _, _, _, _, _ => rfl
  | [], p :: b, _, _, _, _, h => by
    rw [textL_cons] at h
    exact absurd h.symm (by simp [textL])
  | o :: a, [], _, _, _, _, h => by
    rw [textL_cons] at h
    exact absurd h (by simp [textL])
  | o :: a, p :: b, h1, h2, h3, h4, h => by
    simp only [List.all_cons, Bool.and_eq_true] at h1 h2 h3 h4
    rw [textL_cons, textL_cons] at h
    obtain ⟨e, h⟩ := cut_inj (lineL_no h1.1) (lineL_no h2.1) h
    rw [List.map_cons, List.map_cons, lineL_inj h1.1 h2.1 h3.1 h4.1 e, textL_inj a b h1.2 h2.2 h3.2 h4.2 h]
theorem oRow_inj {o p : S35} (h : oRow o = oRow p) : o = p := by
  unfold oRow at h
  simp only [List.cons.injEq, and_true] at h
  obtain ⟨h0, h1, h2, h3, h4, h5⟩ := h
  cases o
  cases p
  simp_all
theorem map_oRow_inj : ∀ {a b : List S35}, a.map oRow = b.map oRow → a = b
  | [], [], _ => rfl
  | [], _ :: _, h => by cases h
  | _ :: _, [], h => by cases h
  | o :: a, p :: b, h => by
    simp only [List.map_cons, List.cons.injEq] at h
    rw [oRow_inj h.1, map_oRow_inj h.2]
theorem sameO_iff (a b : List S35) : sameO a b = true ↔ a = b := by
  unfold sameO
  rw [beq_iff_eq]
  exact ⟨map_oRow_inj, fun h => by rw [h]⟩
/-- Texts are alike just if the rows are. -/
theorem text_same (a b : List S35) (h1 : a.all okO = true) (h2 : b.all okO = true) (h3 : a.all seenB = true) (h4 : b.all seenB = true) : (textL a == textL b) = sameO a b := by
  rw [Bool.eq_iff_iff, beq_iff_eq, sameO_iff]
  exact ⟨fun h => map_oRow_inj (textL_inj a b h1 h2 h3 h4 h), fun h => by rw [h]⟩
end Go.Proofs.YtlmllmbbdlkknaaDoor.P
