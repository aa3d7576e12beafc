/- Behind an error nothing is taken any more, whatever is asked, and the error stays: of every number from 0 to 255, every row of at most thirty steps. -/
import Derived.Test.YtiejhnijfgdapaaPx6
import Derived.Test.YtiejhnijfgdapaaWireR
namespace Go.Proofs.Ytiejhnijfgdapaa.Pure
open Go Go.RowKit Go.Proofs.Ytiejhnijfgdapaa Go.Proofs.Ytiejhnijfgdapaa.P Go.Proofs.Ytiejhnijfgdapaa.WireR Go.Proofs.YtiejhnijfgdapaaW.PrintWords Go.Proofs.YtiejhnijfgdapaaW.PrintLast Go.Proofs.YtiejhnijfgdapaaW.PrintMore

theorem stops_l0 (l : List S46) (hl : l.length ≤ 30) :
    ∀ (d j k : Nat), j + d = l.length → 2 * d + 10 ≤ k → tontinelaw2_WireStops.l0 k l (j : Int) (strOfNums []) (some 11) = some true := by
  intro d
  induction d with
  | zero =>
    intro j k hj hk
    obtain ⟨k, rfl⟩ : ∃ m, k = m + 1 := ⟨k - 1, by omega⟩
    simp only [tontinelaw2_WireStops.l0]
    rw [if_neg (by omega)]
  | succ d ih =>
    intro j k hj hk
    obtain ⟨k, rfl⟩ : ∃ m, k = m + 4 := ⟨k - 4, by omega⟩
    have h := ih (j + 1) (k + 2) (by omega) (by omega)
    have w : wrap64 ((j : Int) + 1) = ((j + 1 : Nat) : Int) := by rw [wrap_in (by omega) (by omega)]; omega
    have z : ((strOfNums ([] : List Int)).size : Int) = 0 := rfl
    have j2 : tontinelaw2_WireStops.j2 (k + 3) l (j : Int) (((strOfNums ([] : List Int)).size : Int) != 0) (strOfNums []) (some 11) = some true := by
      rw [z]
      simp only [tontinelaw2_WireStops.j2]
      rw [if_neg (by simp), w, h]
    have e1 : errors_Is.f (some 11) (some 11) = some true := by decide
    rw [show k + 4 = (k + 3) + 1 from rfl]
    simp only [tontinelaw2_WireStops.l0]
    rw [if_pos (by omega), if_pos (by omega)]
    by_cases c : (rd_T46 l (j : Int)).f0 = 0
    · rw [if_pos c, rnum_err, bind_some']
      simp only [if_true, wire_Reader_Err.f, wire_Reader_Left.f, bind_some', e1]
      exact j2
    · rw [if_neg c, show k + 3 = (k + 1) + 2 from rfl, rbits_err, bind_some']
      simp only [if_true, wire_Reader_Err.f, wire_Reader_Left.f, bind_some', e1]
      exact j2

theorem WireStops : ∀ (x0 : Int) (x1 : List (S46)), (0 ≤ x0 ∧ x0 ≤ 255) → (x1.length ≤ 9223372036854775807 ∧ ∀ y ∈ x1, wf46 y) → ∃ k, tontinelaw2_WireStops.f k x0 x1 = some true := by
  intro n l hn _
  refine ⟨100, ?_⟩
  have hw : wrap64 n = n := wrap_in (by omega) (by omega)
  unfold tontinelaw2_WireStops.f
  rw [show (100 : Nat) = 84 + 16 from rfl, known_f, bind_some', if_pos rfl]
  by_cases c : (l.length : Int) > 30
  · rw [if_pos c]
  · rw [if_neg c, hw]
    obtain ⟨m, hm⟩ : ∃ m : Nat, n = (m : Int) - 1 := ⟨(n + 1).toNat, by omega⟩
    have n1 : (m : Int) - 1 = n := hm.symm
    have s1 : wire_Writer_Num.f (84 + 16) [] n = some ([] ++ encN m) := wnum_f 97 m [] n hm (by omega) (by simp)
    have s2 : wire_Writer_Bits.f (84 + 16) ([] ++ encN m) 7 = some ([] ++ encN m ++ enc8 7) := wbits_f 91 7 _ (by rw [List.nil_append, encN_len]; split <;> (try split) <;> omega)
    have s3 : wire_Reader_Num.f (84 + 16) (strOfNums (encN m ++ enc8 7)) none n = some (n, strOfNums (enc8 7), none) := by
      have := rnum_f 92 m (enc8 7) n (by omega) (bytes_enc8 7)
      rw [if_neg (by omega), n1] at this
      exact this
    have s4 : wire_Reader_Bits.f (84 + 16) (strOfNums (enc8 7)) none = some (7, strOfNums [], none) := by
      have := rbits_f 89 7 [] (by omega) (fun x hx => by simp at hx)
      rw [List.append_nil] at this
      exact this
    have s5 : wire_Reader_Bits.f (84 + 16) (strOfNums []) none = some (0, strOfNums [], some 11) := rbits_short 98 _ (by decide)
    have e1 : errors_Is.f (some 11) (some 11) = some true := by decide
    rw [wire_New.f, bind_some', s1, bind_some', s2, bind_some']
    simp only [wire_Writer_String.f, wire_Of.f, bind_some', List.nil_append]
    rw [s3, bind_some', if_pos rfl]
    simp only []
    rw [s4, bind_some']
    simp only [wire_Reader_Err.f, bind_some']
    rw [if_pos (show (none : Option Int).isNone = true from rfl), s5, bind_some', if_pos rfl]
    simp only []
    rw [e1, bind_some']
    simp only [tontinelaw2_WireStops.j0]
    rw [if_neg (by simp)]
    exact stops_l0 l (by omega) l.length 0 99 (by omega) (by omega)
end Go.Proofs.Ytiejhnijfgdapaa.Pure
