/- Of every number and set the bytes are the document's; of every bytes, step by step, what is taken, how much is left and what is wrong are the document's: of at most five hundred bytes and thirty steps. -/
import Derived.Test.YtiejhnijfgdapaaDoorPx9
import Derived.Test.YtiejhnijfgdapaaDoorWireT
namespace Go.Proofs.YtiejhnijfgdapaaDoor.Pure
open Go Go.RowKit Go.Proofs.YtiejhnijfgdapaaDoor Go.Proofs.YtiejhnijfgdapaaDoor.P Go.Proofs.YtiejhnijfgdapaaDoor.WireR Go.Proofs.YtiejhnijfgdapaaDoor.WireT Go.Proofs.YtiejhnijfgdapaaDoorW.PrintWords Go.Proofs.YtiejhnijfgdapaaDoorW.PrintLast Go.Proofs.YtiejhnijfgdapaaDoorW.PrintMore

theorem code_same (err : Option Int) (E : Int) (h : Same err E) : ext_17.f err = some E := by
  cases err with
  | some e => obtain ⟨rfl, _⟩ := h; rfl
  | none => have h0 : E = 0 := h; subst h0; rfl
theorem tells_j2 (k : Nat) (l : List (S38)) (x : Int) (s : ByteArray) (err : Option Int) (E : Int) (h : Same err E) :
    tontinelaw2_WireTells.j2 (k + 1) l x s err s E = tontinelaw2_WireTells.l0 k l (wrap64 (x + 1)) s err s E := by
  simp only [tontinelaw2_WireTells.j2, wire_Reader_Err.f, wire_Reader_Left.f, bind_some']
  rw [code_same err E h, bind_some']
  simp only [if_true]
theorem tells_l0 (l : List (S38)) (hl : l.length ≤ 30) : ∀ (d j k : Nat) (s : ByteArray) (err : Option Int) (E : Int), j + d = l.length → 2 * d + 20 ≤ k → Same err E →
    tontinelaw2_WireTells.l0 k l (j : Int) s err s E = some true := by
  intro d
  induction d with
  | zero =>
    intro j k s err E hj hk h
    obtain ⟨k, rfl⟩ : ∃ m, k = m + 1 := ⟨k - 1, by omega⟩
    simp only [tontinelaw2_WireTells.l0]
    rw [if_neg (by omega)]
  | succ d ih =>
    intro j k s err E hj hk h
    obtain ⟨k, rfl⟩ : ∃ m, k = m + 1 + 1 := ⟨k - 2, by omega⟩
    have w : wrap64 ((j : Int) + 1) = ((j + 1 : Nat) : Int) := by rw [wrap_in (by omega) (by omega)]; omega
    simp only [tontinelaw2_WireTells.l0]
    rw [if_pos (by omega), if_pos (by omega)]
    by_cases c : (rd_T38 l (j : Int)).f0 = 0
    · rw [if_pos c]
      obtain ⟨n, s', err', E', h1, h2, h3⟩ := num_same (k + 1) s err E (rd_T38 l (j : Int)).f1 h (by omega)
      rw [h1, bind_some', h2, bind_some', if_pos rfl, tells_j2 k l _ s' err' E' h3, w]
      exact ih (j + 1) k s' err' E' (by omega) (by omega) h3
    · rw [if_neg c]
      obtain ⟨n, s', err', E', h1, h2, h3⟩ := bits_same (k + 1) s err E h (by omega)
      rw [h1, bind_some', h2, bind_some', if_pos rfl, tells_j2 k l _ s' err' E' h3, w]
      exact ih (j + 1) k s' err' E' (by omega) (by omega) h3
theorem WireTells : ∀ (x0 : Int) (x1 : Int) (x2 : ByteArray) (x3 : List (S38)), (-9223372036854775808 ≤ x0 ∧ x0 ≤ 9223372036854775807) → (0 ≤ x1 ∧ x1 ≤ 18446744073709551615) → (x2.size ≤ 9223372036854775807) → (x3.length ≤ 9223372036854775807 ∧ ∀ y ∈ x3, wf38 y) → ∃ k, tontinelaw2_WireTells.f k x0 x1 x2 x3 = some true := by
  intro n v s l _ hv _ _
  refine ⟨184 + 16, ?_⟩
  unfold tontinelaw2_WireTells.f
  rw [known_f, bind_some', if_pos rfl]
  have jt : tontinelaw2_WireTells.j0 (184 + 16) n v s l true = some true := by
    simp only [tontinelaw2_WireTells.j0]; rfl
  by_cases c1 : (s.size : Int) > 500
  · rw [if_pos c1, jt]
  · rw [if_neg c1]
    by_cases c2 : (l.length : Int) > 30
    · rw [decide_eq_true c2, jt]
    · rw [decide_eq_false c2]
      obtain ⟨v, rfl⟩ : ∃ m : Nat, v = (m : Int) := ⟨v.toNat, by omega⟩
      obtain ⟨m, hm, hm2⟩ : ∃ m : Nat, mn (mx n (-1)) 1048576 = (m : Int) - 1 ∧ m ≤ 1048577 := ⟨(mn (mx n (-1)) 1048576 + 1).toNat, by unfold mn mx; split <;> split <;> omega, by unfold mn mx; split <;> split <;> omega⟩
      have hm3 : mx (-1) (mn n 1048576) = (m : Int) - 1 := by
        rw [← hm]; unfold mn mx; (repeat' split) <;> omega
      have a1 : wire_Writer_Num.f 199 [] n = some ([] ++ encN m) := by
        unfold wire_Writer_Num.f
        rw [hm, show (m : Int) - 1 + 1 = (m : Int) by omega]
        exact wnum_l0 196 m [] (by omega) (by simp)
      have a2 : wire_Writer_Bits.f 199 ([] ++ encN m) (v : Int) = some ([] ++ encN m ++ enc8 v) := wbits_f 190 v _ (by rw [List.nil_append, encN_len]; split <;> (try split) <;> omega)
      have a3 : tontineref1_Num.f 199 n = some (strOfNums (encN m)) := refnum_f 196 m n hm3 hm2
      have a4 : tontineref1_Bits.f 199 (v : Int) = some (strOfNums (enc8 v)) := refbits_f 190 v
      rw [show (184 + 16 : Nat) = 199 + 1 from rfl]
      simp only [tontinelaw2_WireTells.j0]
      rw [if_neg (by simp), wire_New.f, bind_some', a1, bind_some', a2, bind_some', wire_Writer_String.f, bind_some', a3, bind_some', a4, bind_some']
      have z : (strOfNums (encN m)).size + (strOfNums (enc8 v)).size ≤ 9223372036854775807 := by
        rw [size_num, size_num, enc8_len, encN_len]; split <;> (try split) <;> omega
      rw [if_pos z, nums_app, List.nil_append, if_pos rfl, wire_Of.f, bind_some']
      exact tells_l0 l (by omega) l.length 0 199 s none 0 (by omega) (by omega) rfl
end Go.Proofs.YtiejhnijfgdapaaDoor.Pure
