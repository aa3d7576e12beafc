/- The reference's decimal: the same digits. Walked by hand; its calls of itself by induction. -/
import Derived.Test.YtlmllmbbdlkknaaDoorInj
import Derived.Deep.RegionHeldLaw
import Derived.Laws.BytesString
import Derived.Laws.Cells
namespace Go.Proofs.YtlmllmbbdlkknaaDoor.P
open Go Go.RowKit Go.Proofs.YtlmllmbbdlkknaaDoorW.PrintWords Go.Proofs.YtlmllmbbdlkknaaDoorW.PrintLast
theorem itoaF_small {x : Int} (h0 : 0 ≤ x) (h1 : x < 10) : itoaF x = [UInt8.ofNat (48 + x.toNat)] := by
  unfold itoaF
  rw [if_neg (by omega)]
  unfold digF
  rw [if_pos (by omega)]
theorem itoaF_big {x : Int} (h0 : 10 ≤ x) (hx : in64 x = true) : itoaF x = itoaF (x / 10) ++ [UInt8.ofNat (48 + (x % 10).toNat)] := by
  have h := in64_iff.1 hx
  have p := p20
  have p19 : (10 : Nat) ^ (18 + 1) = 10000000000000000000 := by decide
  unfold itoaF
  rw [if_neg (by omega), if_neg (by omega)]
  rw [show digF 19 x.toNat = digF 18 (x.toNat / 10) ++ [UInt8.ofNat (48 + x.toNat % 10)] by rw [digF]; rw [if_neg (by omega)]]
  rw [digF_eq 18 _ (by omega), digF_eq 19 _ (by omega), show (x / 10).toNat = x.toNat / 10 by omega, show (x % 10).toNat = x.toNat % 10 by omega]
theorem itoaF_neg {x : Int} (h0 : x < 0) (h1 : -10 < x) : itoaF x = 45 :: itoaF (-x) := by
  unfold itoaF
  rw [if_pos h0, if_neg (by omega), show (-x).toNat = x.natAbs by omega]
theorem tdiv_neg' {x : Int} (h : x < 0) : Int.tdiv x 10 = -((x.natAbs / 10 : Nat) : Int) := by
  have e : x = -((x.natAbs : Nat) : Int) := by omega
  generalize x.natAbs = n at e
  subst e
  rw [Int.neg_tdiv]
  rfl
theorem tmod_neg' {x : Int} (h : x < 0) : x.tmod 10 = -((x.natAbs % 10 : Nat) : Int) := by
  have e : x = -((x.natAbs : Nat) : Int) := by omega
  generalize x.natAbs = n at e
  subst e
  rw [Int.neg_tmod]
  rfl
theorem itoaF_nbig {x : Int} (h0 : x ≤ -10) (hx : in64 x = true) : itoaF x = itoaF (Int.tdiv x 10) ++ [UInt8.ofNat (48 + x.natAbs % 10)] := by
  have h := in64_iff.1 hx
  have p := p20
  have hq : Int.tdiv x 10 = -((x.natAbs / 10 : Nat) : Int) := tdiv_neg' (by omega)
  have hlt : Int.tdiv x 10 < 0 := by omega
  unfold itoaF
  rw [if_pos (by omega), if_pos hlt]
  rw [show digF 19 x.natAbs = digF 18 (x.natAbs / 10) ++ [UInt8.ofNat (48 + x.natAbs % 10)] by rw [digF]; rw [if_neg (by omega)]]
  rw [show (Int.tdiv x 10).natAbs = x.natAbs / 10 by omega, digF_eq 18 _ (by omega), digF_eq 19 _ (by omega)]
  rfl
theorem conv_byte (W : World) (a : Addr) (x : Int) (c : Nat) (h : W.cell? a = some (.int .u8 x)) : (convert 58 9 (.slice (some a) 1 c)).run Tryd.prog W = .ok (.string ⟨#[UInt8.ofNat x.toNat]⟩) W := by
  rw [run_convert_bytes_string W 58 9 5 (some a) 1 c rfl rfl rfl, run_bytesToString W a 1 c [x] (run_loadCells W a 1 (fun _ => .int .u8 x) (fun j hj => by
    obtain rfl : j = 0 := by omega
    simpa [Addr.add] using h))]
  rfl
set_option maxHeartbeats 1000000 in
set_option maxRecDepth 1000000 in
theorem dec_small (x : Int) (h0 : 0 ≤ x) (h1 : x < 10) (w : World) : Calls Tryd.prog 27 #[.int .i64 x] w fun e w' => e = .returned (.string ⟨(itoaF x).toArray⟩) ∧ Below w.heap.size w w' := by
  have c1 : ¬ x < 0 := by omega
  go_enter Tryd.func27, Tryd.ntmps27
  go_wp2
  rw [conv_byte _ _ (48 + x) _ (by simp)]
  go_wp2
  go_ret
  refine ⟨?_, (Below.refl _ w).alloc (Nat.le_refl _) _⟩
  show Ending.returned (.string ⟨#[UInt8.ofNat (48 + x).toNat]⟩) = _
  rw [itoaF_small h0 h1, show (48 + x).toNat = 48 + x.toNat by omega]
set_option maxHeartbeats 400000 in
set_option maxRecDepth 1000000 in
theorem dec_big (x : Int) (h0 : 10 ≤ x) (hx : in64 x = true) (ih : ∀ w, Calls Tryd.prog 27 #[.int .i64 (x / 10)] w fun e w' => e = .returned (.string ⟨(itoaF (x / 10)).toArray⟩) ∧ Below w.heap.size w w') (w : World) : Calls Tryd.prog 27 #[.int .i64 x] w fun e w' => e = .returned (.string ⟨(itoaF x).toArray⟩) ∧ Below w.heap.size w w' := by
  have c1 : ¬ x < 0 := by omega
  have c2 : ¬ x < 10 := by omega
  have c3 : (Int.tdiv x 10) = x / 10 := Int.tdiv_eq_ediv_of_nonneg (by omega)
  have c4 : (Int.tmod x 10) = x % 10 := Int.tmod_eq_emod_of_nonneg (by omega)
  go_enter Tryd.func27, Tryd.ntmps27
  have m0 : 0 ≤ x % 10 := Int.emod_nonneg _ (by omega)
  have m1 : x % 10 < 10 := Int.emod_lt_of_pos _ (by omega)
  have b := in64_iff.1 hx
  have q0 : -9223372036854775808 ≤ x / 10 := by omega
  have q1 : x / 10 ≤ 9223372036854775807 := by omega
  have e1 : IntKind.i64.wrap (x / 10) = x / 10 := by simp [IntKind.wrap, IntKind.bits, IntKind.signed]; omega
  have e2 : IntKind.i64.wrap (48 + x % 10) = 48 + x % 10 := by simp [IntKind.wrap, IntKind.bits, IntKind.signed]; omega
  have e3 : IntKind.u8.wrap (48 + x % 10) = 48 + x % 10 := by rw [IntKind.wrap_u8]; omega
  have hl := itoaF_len (x / 10)
  have s1 : ¬ 9223372036854775807 < (itoaF (x / 10)).length + 1 := by omega
  have hbd := below_drew (Below.refl w.heap.size w)
  go_wp2_with fail
  go_region_held_law (fun w' => True) (go_keep)
    (first
      | (go_at_call 27
         refine (ih _).mono ?_
         rintro e w2 ⟨rfl, hb2⟩)
      | rw [conv_byte _ _ (48 + x % 10) _ (by first | simp | exact (hb2.cell (by simp)).trans (by simp))])
  all_goals (
    go_wp2
    go_ret
    refine ⟨?_, ?_⟩
    · show Ending.returned (.string (⟨(itoaF (x / 10)).toArray⟩ ++ ⟨#[UInt8.ofNat (48 + x % 10).toNat]⟩)) = _
      have ea := ba_append (itoaF (x / 10)) [UInt8.ofNat (48 + x % 10).toNat]
      rw [itoaF_big h0 hx, ← show (48 + x % 10).toNat = 48 + (x % 10).toNat by omega, ← ea]
    · first
        | exact (hbd.trans (hb2.mono (by simp))).alloc (Nat.le_trans hbd.size hb2.size) _
        | exact hbd.trans (hb2.mono (by simp))
        | exact (hbd.alloc hbd.size _).trans (hb2.mono (by simp)))
set_option maxHeartbeats 400000 in
set_option maxRecDepth 1000000 in
theorem dec_neg (x : Int) (h0 : x < 0) (h1 : -10 < x) (ih : ∀ w, Calls Tryd.prog 27 #[.int .i64 (-x)] w fun e w' => e = .returned (.string ⟨(itoaF (-x)).toArray⟩) ∧ Below w.heap.size w w') (w : World) : Calls Tryd.prog 27 #[.int .i64 x] w fun e w' => e = .returned (.string ⟨(itoaF x).toArray⟩) ∧ Below w.heap.size w w' := by
  have c1 : x > -10 := by omega
  have e1 : IntKind.i64.wrap (-x) = -x := by simp [IntKind.wrap, IntKind.bits, IntKind.signed]; omega
  have hl := itoaF_len (-x)
  have s1 : ¬ 9223372036854775807 < 1 + (itoaF (-x)).length := by omega
  have hbd := below_drew (Below.refl w.heap.size w)
  go_enter Tryd.func27, Tryd.ntmps27
  go_wp2_with (first
      | (go_at_call 27
         refine (ih _).mono ?_
         rintro e w2 ⟨rfl, hb2⟩))
  go_ret
  refine ⟨?_, by first | exact hb2 | exact hbd.trans (hb2.mono (by simp))⟩
  show Ending.returned (.string (⟨#[45]⟩ ++ ⟨(itoaF (-x)).toArray⟩)) = _
  have ea := ba_append [45] (itoaF (-x))
  rw [itoaF_neg h0 h1]
  exact congrArg (fun s => Ending.returned (.string s)) ea
set_option maxHeartbeats 400000 in
set_option maxRecDepth 1000000 in
theorem dec_nbig (x : Int) (h0 : x ≤ -10) (hx : in64 x = true) (ih : ∀ w, Calls Tryd.prog 27 #[.int .i64 (x.tdiv 10)] w fun e w' => e = .returned (.string ⟨(itoaF (x.tdiv 10)).toArray⟩) ∧ Below w.heap.size w w') (w : World) : Calls Tryd.prog 27 #[.int .i64 x] w fun e w' => e = .returned (.string ⟨(itoaF x).toArray⟩) ∧ Below w.heap.size w w' := by
  have c1 : x < 0 := by omega
  have c2 : ¬ x > -10 := by omega
  have c3 := tdiv_neg' c1
  have c4 : x.tmod 10 = -((x.natAbs % 10 : Nat) : Int) := tmod_neg' c1
  have b := in64_iff.1 hx
  have m1 : x.natAbs % 10 < 10 := Nat.mod_lt _ (by omega)
  have e1 : IntKind.i64.wrap (x.tdiv 10) = x.tdiv 10 := by simp [IntKind.wrap, IntKind.bits, IntKind.signed]; omega
  have e2 : IntKind.i64.wrap (48 - x.tmod 10) = 48 - x.tmod 10 := by simp [IntKind.wrap, IntKind.bits, IntKind.signed]; omega
  have e3 : IntKind.u8.wrap (48 - x.tmod 10) = 48 - x.tmod 10 := by rw [IntKind.wrap_u8]; omega
  clear c3 c4
  have hl := itoaF_len (x.tdiv 10)
  have s1 : ¬ 9223372036854775807 < (itoaF (x.tdiv 10)).length + 1 := by omega
  go_enter Tryd.func27, Tryd.ntmps27
  have hbd := below_drew (Below.refl w.heap.size w)
  go_wp2_with fail
  go_region_held_law (fun w' => True) (go_keep)
    (first
      | (go_at_call 27
         refine (ih _).mono ?_
         rintro e w2 ⟨rfl, hb2⟩)
      | rw [conv_byte _ _ (48 - x.tmod 10) _ (by first | simp | exact (hb2.cell (by simp)).trans (by simp))])
  all_goals (
    go_wp2
    go_ret
    refine ⟨?_, ?_⟩
    · show Ending.returned (.string (⟨(itoaF (x.tdiv 10)).toArray⟩ ++ ⟨#[UInt8.ofNat (48 - x.tmod 10).toNat]⟩)) = _
      have ea := ba_append (itoaF (x.tdiv 10)) [UInt8.ofNat (48 - x.tmod 10).toNat]
      have c4 := tmod_neg' c1
      rw [itoaF_nbig h0 hx, ← show (48 - x.tmod 10).toNat = 48 + x.natAbs % 10 by omega, ← ea]
    · first
        | exact (hbd.trans (hb2.mono (by simp))).alloc (Nat.le_trans hbd.size hb2.size) _
        | exact hbd.trans (hb2.mono (by simp))
        | exact (hbd.alloc hbd.size _).trans (hb2.mono (by simp)))
theorem dec_calls : ∀ (n : Nat) (x : Int), x.natAbs < n → in64 x = true → ∀ w, Calls Tryd.prog 27 #[.int .i64 x] w fun e w' => e = .returned (.string ⟨(itoaF x).toArray⟩) ∧ Below w.heap.size w w'
  | 0, x, h, _ => by omega
  | n + 1, x, h, hx => by
    have b := in64_iff.1 hx
    by_cases h0 : x < 0
    · by_cases h1 : -10 < x
      · exact dec_neg x h0 h1 (fun w => dec_small (-x) (by omega) (by omega) w)
      · have c := tdiv_neg' h0
        exact dec_nbig x (by omega) hx (dec_calls n (x.tdiv 10) (by omega) (in64_iff.2 (by omega)))
    · by_cases h1 : x < 10
      · exact dec_small x (by omega) h1
      · exact dec_big x (by omega) hx (dec_calls n (x / 10) (by omega) (in64_iff.2 (by omega)))
def ext_27.f (x : Int) : Option ByteArray := if in64 x then some ⟨(itoaF x).toArray⟩ else none
theorem ext_27.calls (x : Int) (r : ByteArray) (w : World) (h : ext_27.f x = some r) :
    Calls Tryd.prog 27 #[.int .i64 x] w fun e w' => e = .returned (.string r) ∧ Below w.heap.size w w' := by
  unfold ext_27.f at h
  split at h
  · rename_i hx
    obtain rfl := Option.some.inj h
    exact dec_calls _ x (Nat.lt_succ_self _) hx w
  · cases h
end Go.Proofs.YtlmllmbbdlkknaaDoor.P
