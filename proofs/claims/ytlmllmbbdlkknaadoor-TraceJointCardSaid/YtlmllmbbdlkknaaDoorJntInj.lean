/- What all below a label see is the same just if each of them sees the same: plain Lean over the texts' bytes. -/
import Derived.Test.YtlmllmbbdlkknaaDoorInj
import Derived.Test.YtlmllmbbdlkknaaDoorJnt
import Derived.Test.YtlmllmbbdlkknaaDoorBelowR
namespace Go.Proofs.YtlmllmbbdlkknaaDoor.P
open Go Go.RowKit Go.Proofs.YtlmllmbbdlkknaaDoorW.PrintWords Go.Proofs.YtlmllmbbdlkknaaDoorW.PrintLast
/-- What follows a text: nothing, or the next header. -/
def Hdr (x : List UInt8) : Prop := x = [] ∨ ∃ y, x = 100 :: y
theorem itoaF_ne {x : Int} : itoaF x ≠ [] := by
  have h19 : ∀ n u, digF n u ≠ [] := fun n u e => by have := (digF_len n u).1; rw [e] at this; exact absurd this (by decide)
  unfold itoaF
  split
  · exact List.cons_ne_nil _ _
  · exact h19 _ _
theorem line_head {o : S35} (h : okO o = true) (so : seenB o = true) : ∃ b t, lineL o = b :: t ∧ b ≠ 100 := by
  obtain ⟨h0, _⟩ := okO_parts h
  have hm := itoaF_mem h0
  cases hi : itoaF o.f0 with
  | nil => exact absurd hi itoaF_ne
  | cons b t =>
    have hb : b ≠ 100 := by
      intro e
      rcases hm b (hi ▸ List.mem_cons_self) with e1 | ⟨_, e1⟩
      · rw [e1] at e
        exact absurd e (by decide)
      · rw [e] at e1
        exact absurd e1 (by decide)
    unfold seenB at so
    simp only [Bool.or_eq_true, Bool.and_eq_true, beq_iff_eq] at so
    rcases so with so | ⟨so, _⟩
    · exact ⟨b, _, by rw [line2 so, hi]; rfl, hb⟩
    · exact ⟨b, _, by rw [line1 so, hi]; rfl, hb⟩
theorem text_cut : ∀ (a b : List S35) (X Y : List UInt8), a.all okO = true → b.all okO = true → a.all seenB = true → b.all seenB = true → Hdr X → Hdr Y → textL a ++ X = textL b ++ Y → a.map oRow = b.map oRow ∧ X = Y
  | [], [], _, _, _, _, _, _, _, _, h => ⟨rfl, by simpa [textL] using h⟩
  | [], p :: b, X, Y, _, h2, _, h4, hX, _, h => by
    simp only [List.all_cons, Bool.and_eq_true] at h2 h4
    obtain ⟨c, t, e, hc⟩ := line_head h2.1 h4.1
    rw [textL_cons, e] at h
    simp only [textL, List.flatMap_nil, List.nil_append, List.cons_append] at h
    rcases hX with rfl | ⟨y, rfl⟩
    · cases h
    · injection h with h _
      exact absurd h.symm hc
  | o :: a, [], X, Y, h1, _, h3, _, _, hY, h => by
    simp only [List.all_cons, Bool.and_eq_true] at h1 h3
    obtain ⟨c, t, e, hc⟩ := line_head h1.1 h3.1
    rw [textL_cons, e] at h
    simp only [textL, List.flatMap_nil, List.nil_append, List.cons_append] at h
    rcases hY with rfl | ⟨y, rfl⟩
    · cases h
    · injection h with h _
      exact absurd h hc
  | o :: a, p :: b, X, Y, h1, h2, h3, h4, hX, hY, h => by
    simp only [List.all_cons, Bool.and_eq_true] at h1 h2 h3 h4
    rw [textL_cons, textL_cons, List.append_assoc, List.append_assoc] at h
    obtain ⟨e, h⟩ := cut_inj (lineL_no h1.1) (lineL_no h2.1) (by simpa using h)
    obtain ⟨e2, e3⟩ := text_cut a b X Y h1.2 h2.2 h3.2 h4.2 hX hY h
    exact ⟨by rw [List.map_cons, List.map_cons, lineL_inj h1.1 h2.1 h3.1 h4.1 e, e2], e3⟩
theorem joint_hdr (tr : List (List S35)) (L : List Nat) : Hdr (jointL tr L) := by
  cases L with
  | nil => exact .inl rfl
  | cons d L => exact .inr ⟨_, by simp only [jointL, List.flatMap_cons, partL, List.cons_append]; rfl⟩
/-- What is asked of the two rows of traces. -/
def Fine (tr ts : List (List S35)) (d : Nat) : Prop := (rd_L4 tr (d : Int)).all okO = true ∧ (rd_L4 ts (d : Int)).all okO = true ∧ (rd_L4 tr (d : Int)).all seenB = true ∧ (rd_L4 ts (d : Int)).all seenB = true
theorem joint_inj (tr ts : List (List S35)) : ∀ (L : List Nat), (∀ d ∈ L, Fine tr ts d) → jointL tr L = jointL ts L → ∀ d ∈ L, sameO (rd_L4 tr (d : Int)) (rd_L4 ts (d : Int)) = true
  | [], _, _ => fun d hd => by cases hd
  | d :: L, hF, h => by
    have h1 : partL tr d ++ jointL tr L = partL ts d ++ jointL ts L := h
    unfold partL at h1
    simp only [List.append_assoc] at h1
    have h2 := List.append_cancel_left (List.append_cancel_left (List.append_cancel_left h1))
    obtain ⟨f1, f2, f3, f4⟩ := hF d List.mem_cons_self
    obtain ⟨e1, e2⟩ := text_cut _ _ _ _ f1 f2 f3 f4 (joint_hdr tr L) (joint_hdr ts L) h2
    intro x hx
    rcases List.mem_cons.1 hx with rfl | hx
    · unfold sameO
      rw [e1]
      exact beq_self_eq_true _
    · exact joint_inj tr ts L (fun y hy => hF y (List.mem_cons_of_mem _ hy)) e2 x hx
theorem joint_same (tr ts : List (List S35)) : ∀ (L : List Nat), (∀ d ∈ L, sameO (rd_L4 tr (d : Int)) (rd_L4 ts (d : Int)) = true) → jointL tr L = jointL ts L
  | [], _ => rfl
  | d :: L, h => by
    have e := (sameO_iff _ _).1 (h d List.mem_cons_self)
    have := joint_same tr ts L (fun x hx => h x (List.mem_cons_of_mem _ hx))
    show partL tr d ++ jointL tr L = partL ts d ++ jointL ts L
    unfold partL
    rw [e, this]
end Go.Proofs.YtlmllmbbdlkknaaDoor.P
