/- What an argument reads as, kind by kind: from the form's own reading of a value to the kinds of the printed words. -/
import Derived.Test.YtiejhnijfgdapaaDoorWWords
import Derived.Test.YtiejhnijfgdapaaDoorWMore
import Derived.Deep.Slices
import Derived.Deep.Fields
import Derived.ChangeSame
import Derived.WalkKit
import Derived.ProofKit
import Derived.OpenShut
import Derived.ShutString
import Derived.ChangeOld
import Derived.Below
import Derived.SizedLaws
namespace Go.Proofs.YtiejhnijfgdapaaDoor.Opens
open Go Go.ChangeShapes Go.WideShapes Go.Deep Go.RowKit Go.Proofs.YtiejhnijfgdapaaDoorW.PrintWords

/-- Whatever is read as type T reads as kind k, and keeps wf. -/
def Opens (P : Program) (T : TypeId) {α : Type} (k : Kd α) (wf : α → Prop) : Prop :=
  ∀ (H : Type) (enc : TypeId × Value → H) (w : World) (base : Nat) (spare : Nat → Bool) (held : Bool) (fuel : Nat) (cs : List Value) (x : DataW H × List MemPlace),
    DataW.trod enc P w base spare held fuel T cs = some x → ∃ a, k.K w a cs ∧ wf a

theorem wf_i64 {n : Int} (h : (Lit.int .i64 n).wf = true) : -9223372036854775808 ≤ n ∧ n ≤ 9223372036854775807 := by
  simpa [Lit.wf, IntKind.min, IntKind.max, IntKind.signed, IntKind.bits] using h
section
variable {P : Program} {T : TypeId}
theorem opens_int {k : IntKind} (ht : P.underlying T = some (.int k)) : Opens P T (Kd.int k) (fun n => (Lit.int k n).wf = true) := by
  intro H enc w base spare held fuel cs x h
  obtain ⟨n, rfl, _, hw⟩ := DataW.trod_int ht h
  exact ⟨n, rfl, hw⟩
theorem list_of {α : Type} (p : Nat → α → Prop) : ∀ n, (∀ i, i < n → ∃ x, p i x) → ∃ xs : List α, xs.length = n ∧ ∀ i x, xs[i]? = some x → p i x
  | 0, _ => ⟨[], rfl, fun i x h => by simp at h⟩
  | n + 1, h => by
    obtain ⟨xs, hl, hp⟩ := list_of p n (fun i hi => h i (by omega))
    obtain ⟨x, hx⟩ := h n (by omega)
    refine ⟨xs ++ [x], by simp [hl], fun i y hy => ?_⟩
    by_cases hi : i < n
    · rw [List.getElem?_append_left (by omega)] at hy
      exact hp i y hy
    · rw [List.getElem?_append_right (by omega)] at hy
      by_cases h0 : i - xs.length = 0
      · rw [h0] at hy
        simp at hy
        subst hy
        have : i = n := by omega
        exact this ▸ hx
      · rw [List.getElem?_eq_none (by simp; omega)] at hy
        cases hy

theorem add_cells (a : Addr) (i j : Nat) : (a.add i).add j = a.add (i + j) := by
  unfold Addr.add
  by_cases hi : i = 0 <;> by_cases hj : j = 0 <;> simp [hi, hj, Nat.add_assoc]

theorem opens_slice {e : TypeId} {α : Type} {k : Kd α} {wf : α → Prop} (ht : P.underlying T = some (.slice e)) (hc : P.cellsOf e = k.sz) (hk : Opens P e k wf) :
    Opens P T (Kd.slice e k) (fun l => l.length ≤ 9223372036854775807 ∧ ∀ a ∈ l, wf a) := by
  intro H enc w base spare held fuel cs x h
  rcases open_slice ht h with ⟨rfl, _⟩ | ⟨a, len, cap, m, n, D, Pl, rfl, hb, hl, hm, hmm, _, hi⟩
  · exact ⟨[], ⟨none, 0, rfl, Nat.le_refl _, rfl, by simp, fun h => absurd h (by simp)⟩, by simp, by simp⟩
  · have hlm : len ≤ m := by rw [hmm]; split <;> omega
    obtain ⟨xs, hxl, hxs⟩ := list_of (fun i y => wf y ∧ ∃ c : List Value, c.length = k.sz ∧ k.K w y c ∧ ∀ j u, c[j]? = some u → w.cell? (a.add (i * k.sz + j)) = some u) len (fun i hi' => by
      obtain ⟨cs', hcell, htr⟩ := hi i (by omega)
      obtain ⟨y, hy, hw⟩ := hk H enc w base spare held n cs' _ htr
      obtain ⟨_, hcl, hat⟩ := World.cells?_some hcell
      refine ⟨y, hw, cs', k.K_len hy, hy, fun j u hu => ?_⟩
      rw [hc] at hat hcl
      have hj : j < cs'.length := by
        rcases Nat.lt_or_ge j cs'.length with h | h
        · exact h
        · rw [List.getElem?_eq_none h] at hu; cases hu
      have h2 := hat j (by omega)
      rw [add_cells] at h2
      exact h2.trans hu)
    have hmx : cap ≤ 9223372036854775807 := by unfold maxLen at hm; exact hm
    refine ⟨xs, ⟨some a, cap, by rw [hxl], by omega, ?_⟩, by omega, fun y hy => ?_⟩
    · rw [hxl]
      exact ⟨hxl, by omega, fun _ => ⟨a, rfl, fun j p hp => (hxs j p hp).2⟩⟩
    · obtain ⟨i, hi1, hi2⟩ := List.getElem_of_mem hy
      exact (hxs i y (by rw [List.getElem?_eq_getElem hi1, hi2])).1

/-- The cells of a struct, field by field. -/
def Splits {H : Type} (enc : TypeId × Value → H) (P : Program) (w : World) (base : Nat) (spare : Nat → Bool) (held : Bool) (n : Nat) : List TypeId → List Value → Prop
  | [], cs => cs = []
  | t :: ts, cs => (∃ x, DataW.trod enc P w base spare held n t (cs.take (P.cellsOf t)) = some x) ∧ Splits enc P w base spare held n ts (cs.drop (P.cellsOf t))

def offsOk (P : Program) (T : TypeId) : Nat → List Field → Bool
  | o, [] => o == P.cellsOf T
  | o, f :: fs => f.offset == o && offsOk P T (o + P.cellsOf f.type) fs

theorem splits_of {H : Type} {enc : TypeId × Value → H} {w : World} {base : Nat} {spare : Nat → Bool} {held : Bool} {n : Nat} {cs : List Value} (hl : cs.length = P.cellsOf T) :
    ∀ (fs : List Field) (o : Nat), offsOk P T o fs = true → (∀ f ∈ fs, ∃ x, DataW.trod enc P w base spare held n f.type ((cs.drop f.offset).take (P.cellsOf f.type)) = some x) →
      Splits enc P w base spare held n (fs.map (·.type)) (cs.drop o)
  | [], o, ho, _ => by
    simp [offsOk] at ho
    simp [Splits, ho, hl]
  | f :: fs, o, ho, h => by
    simp only [offsOk, Bool.and_eq_true, beq_iff_eq] at ho
    obtain ⟨ho1, ho2⟩ := ho
    refine ⟨?_, ?_⟩
    · have := h f List.mem_cons_self
      rw [ho1] at this
      exact this
    · have h2 := splits_of hl fs (o + P.cellsOf f.type) ho2 (fun g hg => h g (List.mem_cons_of_mem _ hg))
      rw [← List.drop_drop] at h2
      exact h2

def OpensL (P : Program) (ts : List TypeId) {α : Type} (k : Kd α) (wf : α → Prop) : Prop :=
  ∀ (H : Type) (enc : TypeId × Value → H) (w : World) (base : Nat) (spare : Nat → Bool) (held : Bool) (n : Nat) (cs : List Value),
    Splits enc P w base spare held n ts cs → ∃ a, k.K w a cs ∧ wf a

theorem opensL_one {α : Type} {k : Kd α} {wf : α → Prop} (hk : Opens P T k wf) : OpensL P [T] k wf := by
  rintro H enc w base spare held n cs ⟨⟨x, hx⟩, h0⟩
  have hd : cs.drop (P.cellsOf T) = [] := h0
  have : cs.take (P.cellsOf T) = cs := List.take_of_length_le (by simpa using hd)
  rw [this] at hx
  exact hk H enc w base spare held n cs x hx

theorem opensL_cons {ts : List TypeId} {α β : Type} {k : Kd α} {wf : α → Prop} {kl : Kd β} {wl : β → Prop} (hk : Opens P T k wf) (hl : OpensL P ts kl wl) : OpensL P (T :: ts) (Kd.pair k kl) (fun p => wf p.1 ∧ wl p.2) := by
  rintro H enc w base spare held n cs ⟨⟨x, hx⟩, h0⟩
  obtain ⟨a, ha, wa⟩ := hk H enc w base spare held n _ x hx
  obtain ⟨b, hb, wb⟩ := hl H enc w base spare held n _ h0
  exact ⟨(a, b), ⟨_, _, (List.take_append_drop _ _).symm, ha, hb⟩, wa, wb⟩

theorem opens_struct {fs : Array Field} {α : Type} {k : Kd α} {wf : α → Prop} (ht : P.underlying T = some (.struct fs)) (ho : offsOk P T 0 fs.toList = true) (hl : OpensL P (fs.toList.map (·.type)) k wf) : Opens P T k wf := by
  intro H enc w base spare held fuel cs x h
  obtain ⟨xs, n, _, _, hcl, hxl, hf⟩ := DataW.trod_struct ht h
  refine hl H enc w base spare held n cs ?_
  have := splits_of (enc := enc) (w := w) (base := base) (spare := spare) (held := held) (n := n) hcl fs.toList 0 ho (fun f hfm => by
    obtain ⟨i, hi, rfl⟩ := List.getElem_of_mem hfm
    have hi' : i < fs.size := by simpa using hi
    have h1 := hf i fs[i] (by rw [Array.getElem?_eq_getElem hi'])
    rw [List.getElem?_eq_getElem (by omega)] at h1
    exact ⟨_, by simpa using h1⟩)
  simpa using this

theorem opens_iso {α β : Type} {k : Kd α} {wf : α → Prop} {f : β → α} (g : α → β) (hg : ∀ a, f (g a) = a) (hk : Opens P T k wf) : Opens P T (Kd.iso k f) (fun b => wf (f b)) := by
  intro H enc w base spare held fuel cs x h
  obtain ⟨a, ha, wa⟩ := hk H enc w base spare held fuel cs x h
  exact ⟨g a, show k.K w (f (g a)) cs from (hg a).symm ▸ ha, show wf (f (g a)) from (hg a).symm ▸ wa⟩

theorem opens_imp {α : Type} {k : Kd α} {wf wf' : α → Prop} (h : ∀ a, wf a → wf' a) (hk : Opens P T k wf) : Opens P T k wf' := by
  intro H enc w base spare held fuel cs x hx
  obtain ⟨a, ha, wa⟩ := hk H enc w base spare held fuel cs x hx
  exact ⟨a, ha, h a wa⟩

theorem open_arg_slice {H : Type} {enc : TypeId × Value → H} {w : World} {base : Nat} {spare : Nat → Bool} {held : Bool} {r : Reach} {b0 : Nat} {v : Value} {d : DataW H} {p : List MemPlace} {e : TypeId} {α : Type} {k : Kd α} {wf : List α → Prop}
    (hk : Opens P T (Kd.slice e k) wf) (hs : P.underlying T = some (.slice e)) (hv : Value.okWide P w r b0 T v) (h : DataW.Trod enc P w base spare held T v d p) : ∃ xs A c, v = .slice A xs.length c ∧ xs.length ≤ c ∧ k.C w A xs.length xs ∧ wf xs := by
  obtain ⟨A, len, cap, rfl⟩ := okWide_slice hs hv
  obtain ⟨fuel, hf⟩ := h
  obtain ⟨a, ⟨A', c', hc, hl, hC⟩, wa⟩ := hk H enc w base spare held fuel _ _ hf
  refine ⟨a, A', c', ?_, hl, hC, wa⟩
  simp [Value.cells] at hc
  obtain ⟨rfl, rfl, rfl⟩ := hc
  rfl
end
end Go.Proofs.YtiejhnijfgdapaaDoor.Opens
