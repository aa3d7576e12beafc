/- Longer ways to write a number, ones that are cut off, ones that are too great: the law, walked by hand over the reader's and the writer's contracts. -/
import Derived.Test.YtiejhnijfgdapaaWrg
namespace Go.Proofs.Ytiejhnijfgdapaa.P
open Go Go.RowKit Go.Proofs.Ytiejhnijfgdapaa Go.Proofs.Ytiejhnijfgdapaa.WireR Go.Proofs.YtiejhnijfgdapaaW.PrintWords Go.Proofs.YtiejhnijfgdapaaW.PrintLast Go.Proofs.YtiejhnijfgdapaaW.PrintMore
/-- 'string(b)' of a row of the call's own. -/
theorem conv_own {w : World} {base n : Nat} {v : Value} {xs : List Int} (ho : w.ownsRow base 5 1 v n (xs.map (Value.int .u8))) (hp : 0 < n) : (convert 40 9 v).run Try.prog w = .ok (.string (strOfNums xs)) w := by
  have hl := ho.1
  rcases ho.2 with ⟨_, h⟩ | ⟨g, cap, cur, rfl, _, hg, hn, _, hz, ht⟩
  · omega
  · rw [List.length_map, Nat.mul_one] at hl
    refine run_convert_bytes_arg w 40 5 Try.underlying40 Try.underlying5 g 0 n cap xs hl (fun i hi => ?_) 9 Try.underlying9
    have e : cur.toList[i]? = some (.int .u8 (xs.getD i 0)) := by
      have h2 : (cur.toList.take (n * 1))[i]? = cur.toList[i]? := List.getElem?_take_of_lt (by omega)
      rw [← h2, ht]
      simp [List.getD, show i < xs.length by omega]
    rw [show (0 : Nat) + i = i by omega, blk_cell hg i, ← Array.getElem?_toList, e]
section
variable {wb : World} {b N cap x : Nat} {I : List Int} {y : Int}
/-- The row with its last byte turned, and the byte that is to be appended. -/
def putW (wb : World) (b k : Nat) (y : Int) : World := (wb.setCell ⟨b, k, none⟩ (.int .u8 y)).alloc (.cells #[.int .u8 0] 5)
theorem putW_size : (putW wb b I.length y).heap.size = wb.heap.size + 1 := by simp [putW]
theorem putW_new (hb : wb.heap.size = b + 1) : (putW wb b I.length y).cell? ⟨b + 1, 0, none⟩ = some (.int .u8 0) := by
  have h := World.cell?_alloc_new (wb.setCell ⟨b, I.length, none⟩ (.int .u8 y)) #[.int .u8 0] 5 0
  rw [World.size_setCell, hb] at h
  exact h
theorem putW_old (hN : I.length + 1 = N) (hb : wb.heap.size = b + 1) (hcell : ∀ j, j < N → wb.cell? ⟨b, j, none⟩ = some (.int .u8 ((I ++ [(x : Int)]).getD j 0))) :
    ∀ j u, ((I ++ [y]).map (Value.int .u8))[j]? = some u → (putW wb b I.length y).cell? ⟨b, 0 + j, none⟩ = some u := by
  intro j u hu
  have hj : j < N := by
    have := (List.getElem?_eq_some_iff.1 hu).1
    simp at this; omega
  rw [putW, World.cell?_alloc_past _ _ _ (by rw [World.size_setCell]; omega), show 0 + j = j by omega]
  by_cases e : j = I.length
  · subst e
    rw [World.cell?_setCell_same _ _ _ (hcell _ hj)]
    simpa using hu
  · rw [World.cell?_setCell_other _ _ _ _ (by simp <;> omega), hcell j hj]
    have hj2 : j < I.length := by omega
    simp [List.getElem?_append_left, hj2] at hu
    rw [← hu]
    simp [List.getD, List.getElem?_append_left hj2, hj2]
theorem putW_spare (hb : wb.heap.size = b + 1) (hspare : ∀ j, j < cap → (wb.cell? ⟨b, j, none⟩).isSome = true ∧ wb.frozen? ⟨b, j, none⟩ = false) (k : Nat) (hk : k < cap) :
    ((putW wb b I.length y).cell? ⟨b, k, none⟩).isSome = true ∧ (putW wb b I.length y).frozen? ⟨b, k, none⟩ = false := by
  rw [putW, World.cell?_alloc_past _ _ _ (by rw [World.size_setCell]; omega), World.frozen?_alloc_past _ _ _ (by rw [World.size_setCell]; omega), World.frozen?_setCell]
  refine ⟨?_, (hspare k hk).2⟩
  by_cases e : k = I.length
  · subst e
    obtain ⟨u, hu⟩ := Option.isSome_iff_exists.1 (hspare _ hk).1
    rw [World.cell?_setCell_same _ _ _ hu]
    rfl
  · rw [World.cell?_setCell_other _ _ _ _ (by simp <;> omega)]
    exact (hspare k hk).1
theorem putW_below {w : World} (hw : Below w.heap.size w wb) (hb : w.heap.size ≤ b) : Below w.heap.size w (putW wb b I.length y) := (below_set hw hb).alloc (by rw [World.size_setCell]; exact hw.size) _
/-- Where there is room: what the row is as a string. -/
theorem putW_conv (hN : I.length + 1 = N) (hb : wb.heap.size = b + 1) (hcell : ∀ j, j < N → wb.cell? ⟨b, j, none⟩ = some (.int .u8 ((I ++ [(x : Int)]).getD j 0)))
    (hspare : ∀ j, j < cap → (wb.cell? ⟨b, j, none⟩).isSome = true ∧ wb.frozen? ⟨b, j, none⟩ = false) (hr : N + 1 ≤ cap) :
    (convert 40 9 (.slice (some ⟨b, 0, none⟩) (N + 1) cap)).run Try.prog ((putW wb b I.length y).setCells b (0 + N * 1) [.int .u8 0]) = .ok (.string (strOfNums (I ++ [y, 0]))) ((putW wb b I.length y).setCells b (0 + N * 1) [.int .u8 0]) := by
  refine run_convert_bytes_arg _ 40 5 Try.underlying40 Try.underlying5 b 0 (N + 1) cap (I ++ [y, 0]) (by simp; omega) (fun i hi => ?_) 9 Try.underlying9
  rw [show (0 : Nat) + i = i by omega]
  by_cases e : i = N
  · subst e
    have h := World.cell?_setCells_in b [.int .u8 0] (0 + i * 1) (putW wb b I.length y) (fun j hj => by
      have hj0 : j = 0 := by simpa using hj
      subst hj0
      rw [show 0 + i * 1 + 0 = i by omega]
      exact (putW_spare hb hspare i (by omega)).1) 0 (by simp)
    rw [show 0 + i * 1 + 0 = i by omega] at h
    rw [h]
    simp [List.getD, List.getElem?_append_right, ← hN]
  · rw [World.cell?_setCells_out b _ _ _ _ (fun _ _ => .inl (by simp; omega))]
    have hi2 : i < (I ++ [y]).length := by simp; omega
    have h := putW_old (y := y) hN hb hcell i (.int .u8 ((I ++ [y])[i])) (by rw [List.getElem?_map, List.getElem?_eq_getElem hi2]; rfl)
    rw [show (0 : Nat) + i = i by omega] at h
    rw [h]
    have e2 : (I ++ [y, 0]) = (I ++ [y]) ++ [0] := by simp
    rw [e2]
    simp only [List.getD, List.getElem?_append_left hi2, List.getElem?_eq_getElem hi2, Option.getD_some]
end
set_option maxHeartbeats 4000000 in
set_option maxRecDepth 1000000 in
theorem wrong1 (n how most : Int) (m : Nat) (hm : m ≤ 1048577) (hn : n = (m : Int) - 1) (h1 : ¬ most < -1) (h2 : ¬ 1048576 < most) (hh : how.tmod 4 = 1) (w : World) :
    Calls Try.prog 4 #[.int .i64 n, .int .u8 how, .int .i64 most] w fun e w' => e = .returned (.bool true) ∧ Below w.heap.size w w' := by
  obtain ⟨I, x, hL, hx, hI, hBI, h11, h10⟩ := spoil m hm
  have hB := bytes_encN m (by omega)
  have hnum : wire_Writer_Num.f 40 [] n = some (encN m) := wnum_f 37 m [] n hn hm (by simp)
  have hrd0 : wire_Reader_Num.f 40 (strOfNums (encN m)) none most = if (m : Int) - 1 > most then some (0, strOfNums (encN m), some 12) else some ((m : Int) - 1, strOfNums [], none) := by
    have h := rnum_f 32 m [] most (by omega) (fun x hx => by simp at hx)
    rw [List.append_nil] at h
    exact h
  rw [hL] at hB hnum hrd0
  have hlen : (I ++ [(x : Int)]).length = I.length + 1 := by simp
  have e1 : ¬ n < -1 := by omega
  have e2 : ¬ 1048576 < n := by omega
  have hu37 := Try.underlying37
  have hu42 := Try.underlying42
  generalize hN : I.length + 1 = N at hlen
  have hN0 : ¬ (N : Int) = 0 := by omega
  have hw1 : IntKind.i64.wrap ((N : Int) - 1) = (I.length : Int) := by
    simp [IntKind.wrap, IntKind.bits, IntKind.signed]; omega
  have hrd := err_num 38 (strOfNums I) 1048576 11 h11
  have hleft : wire_Reader_Left.f (strOfNums I) (some 11) = some ((I.length : Int), strOfNums I, some 11) := by unfold wire_Reader_Left.f; rw [size_num]
  have HN := Goto.m0 hn
  clear hn
  go_enter Try.func4, Try.ntmps4
  go_wp2_with (first
    | (go_at_call 9
       refine (tontinelaw2_known.calls 40 true rfl _ (known_f 24)).mono ?_
       rintro e w1 ⟨rfl, hb1⟩)
    | (go_at_call 10
       refine (wire_New.calls [] _ rfl).mono ?_
       rintro e w2 ⟨v0, g, rfl, ho, hg, g0, hb2⟩)
    | (go_at_call 11
       have hc := wire_Writer_Num.calls 40 g (fun _ => True) v0 [] n (I ++ [(x : Int)]) w1 _ hg g0 hb2 ho hnum
       with_reducible refine hc.mono ?_
       clear hc
       rintro e w3 ⟨v1, rfl, ho3, hg3, hb3, _⟩)
    | (go_at_call 14
       have hc := wire_Writer_String.calls g _ v1 (I ++ [(x : Int)]) _ _ w1 _ hg3 g0 hb3 ho3 rfl
       with_reducible refine hc.mono ?_
       clear hc
       rintro e w4 ⟨rfl, _, _, hb4, _⟩
       obtain ⟨wb, cap, hrun, hcap, hcm, hbb, hbs, hcell, hspare⟩ := conv_b w4 (I ++ [(x : Int)]) hB N hlen (by omega)
       have hW := hb1.trans ((hb4.trans (hbb.mono hb4.size)).mono hb1.size)
       have hs1 : (convert 40 9 (.slice (some ⟨w4.heap.size, 0, none⟩) I.length cap)).run Try.prog wb = .ok (.string (strOfNums I)) wb :=
         run_convert_bytes_arg wb 40 5 Try.underlying40 Try.underlying5 w4.heap.size 0 I.length cap I rfl (fun i hi => by
           have h := hcell i (by omega)
           rw [show (0 : Nat) + i = i by omega, h]
           congr 2
           simp [List.getD, List.getElem?_append_left hi, hi]) 9 Try.underlying9)
    | (go_at_call 13
       refine (wire_Of.calls (strOfNums I) (strOfNums I) none _ rfl).mono ?_
       rintro e w5 ⟨g5, rfl, hg5, g50, hb5⟩)
    | (go_at_call 15
       have hc := wire_Reader_Num.calls 40 g5 (strOfNums I) none 1048576 0 (strOfNums I) (some 11) wb w5 hg5 g50 hb5 hrd
       with_reducible refine hc.mono ?_
       clear hc
       rintro e w6 ⟨rfl, hg6, hb6, _⟩)
    | (go_at_call 18
       have hc := wire_Reader_Err.calls g5 (strOfNums I) (some 11) (some 11) _ _ wb w6 hg6 g50 hb6 rfl
       with_reducible refine hc.mono ?_
       clear hc
       rintro e w7 ⟨rfl, hg7, hb7, _⟩
       simp only [errW_some])
    | (go_at_call 19
       refine (EI.some_some 11 11 _).mono ?_
       rintro e w8 ⟨rfl, hw8⟩
       rw [hw8])
    | (go_at_call 17
       have hc := wire_Reader_Left.calls g5 (strOfNums I) (some 11) (I.length : Int) _ _ wb w7 hg7 g50 hb7 hleft
       with_reducible refine hc.mono ?_
       clear hc
       rintro e w9 ⟨rfl, hg9, hb9, _⟩))
  go_ret
  exact ⟨rfl, hW.trans (hb9.mono hW.size)⟩
set_option maxHeartbeats 4000000 in
set_option maxRecDepth 1000000 in
theorem wrong0a (n how most : Int) (m : Nat) (hm : m ≤ 1048577) (hn : n = (m : Int) - 1) (h1 : ¬ most < -1) (h2 : ¬ 1048576 < most) (hmo : most < n) (hh : how.tmod 4 = 0) (w : World) :
    Calls Try.prog 4 #[.int .i64 n, .int .u8 how, .int .i64 most] w fun e w' => e = .returned (.bool true) ∧ Below w.heap.size w w' := by
  obtain ⟨I, x, hL, hx, hI, hBI, h11, h10⟩ := spoil m hm
  have hB := bytes_encN m (by omega)
  have hnum : wire_Writer_Num.f 40 [] n = some (encN m) := wnum_f 37 m [] n hn hm (by simp)
  have hrd0 : wire_Reader_Num.f 40 (strOfNums (encN m)) none most = if (m : Int) - 1 > most then some (0, strOfNums (encN m), some 12) else some ((m : Int) - 1, strOfNums [], none) := by
    have h := rnum_f 32 m [] most (by omega) (fun x hx => by simp at hx)
    rw [List.append_nil] at h
    exact h
  rw [hL] at hB hnum hrd0
  have hlen : (I ++ [(x : Int)]).length = I.length + 1 := by simp
  have e1 : ¬ n < -1 := by omega
  have e2 : ¬ 1048576 < n := by omega
  have hu37 := Try.underlying37
  have hu42 := Try.underlying42
  generalize hN : I.length + 1 = N at hlen
  have hN0 : ¬ (N : Int) = 0 := by omega
  have hw1 : IntKind.i64.wrap ((N : Int) - 1) = (I.length : Int) := by
    simp [IntKind.wrap, IntKind.bits, IntKind.signed]; omega
  have hrd := hrd0.trans (if_pos (by omega))
  have HN := Goto.m0 hn
  clear hn
  go_enter Try.func4, Try.ntmps4
  go_wp2_with (first
    | (go_at_call 9
       refine (tontinelaw2_known.calls 40 true rfl _ (known_f 24)).mono ?_
       rintro e w1 ⟨rfl, hb1⟩)
    | (go_at_call 10
       refine (wire_New.calls [] _ rfl).mono ?_
       rintro e w2 ⟨v0, g, rfl, ho, hg, g0, hb2⟩)
    | (go_at_call 11
       have hc := wire_Writer_Num.calls 40 g (fun _ => True) v0 [] n (I ++ [(x : Int)]) w1 _ hg g0 hb2 ho hnum
       with_reducible refine hc.mono ?_
       clear hc
       rintro e w3 ⟨v1, rfl, ho3, hg3, hb3, _⟩)
    | (go_at_call 14
       have hc := wire_Writer_String.calls g _ v1 (I ++ [(x : Int)]) _ _ w1 _ hg3 g0 hb3 ho3 rfl
       with_reducible refine hc.mono ?_
       clear hc
       rintro e w4 ⟨rfl, _, _, hb4, _⟩
       obtain ⟨wb, cap, hrun, hcap, hcm, hbb, hbs, hcell, hspare⟩ := conv_b w4 (I ++ [(x : Int)]) hB N hlen (by omega)
       have hW := hb1.trans ((hb4.trans (hbb.mono hb4.size)).mono hb1.size)
       have hs0 : (convert 40 9 (.slice (some ⟨w4.heap.size, 0, none⟩) N cap)).run Try.prog wb = .ok (.string (strOfNums (I ++ [(x : Int)]))) wb :=
         run_convert_bytes_arg wb 40 5 Try.underlying40 Try.underlying5 w4.heap.size 0 N cap (I ++ [(x : Int)]) hlen (fun i hi => by
           rw [show (0 : Nat) + i = i by omega]
           exact hcell i hi) 9 Try.underlying9)
    | (go_at_call 13
       refine (wire_Of.calls (strOfNums (I ++ [(x : Int)])) (strOfNums (I ++ [(x : Int)])) none _ rfl).mono ?_
       rintro e w5 ⟨g5, rfl, hg5, g50, hb5⟩)
    | (go_at_call 15
       have hc := wire_Reader_Num.calls 40 g5 (strOfNums (I ++ [(x : Int)])) none most 0 (strOfNums (I ++ [(x : Int)])) (some 12) wb w5 hg5 g50 hb5 hrd
       with_reducible refine hc.mono ?_
       clear hc
       rintro e w6 ⟨rfl, hg6, hb6, _⟩)
    | (go_at_call 18
       have hc := wire_Reader_Err.calls g5 (strOfNums (I ++ [(x : Int)])) (some 12) (some 12) _ _ wb w6 hg6 g50 hb6 rfl
       with_reducible refine hc.mono ?_
       clear hc
       rintro e w7 ⟨rfl, hg7, hb7, _⟩
       simp only [errW_some])
    | (go_at_call 19
       refine (EI.some_some 12 12 _).mono ?_
       rintro e w8 ⟨rfl, hw8⟩
       rw [hw8])
    | (go_at_call 16
       have hc := wire_Reader_Bits.calls 40 g5 (strOfNums (I ++ [(x : Int)])) (some 12) 0 _ _ wb w7 hg7 g50 hb7 (rbits_err 38 _ 12)
       with_reducible refine hc.mono ?_
       clear hc
       rintro e w9 ⟨rfl, hg9, hb9, _⟩)
    | (go_at_call 18
       have hc := wire_Reader_Err.calls g5 (strOfNums (I ++ [(x : Int)])) (some 12) (some 12) _ _ wb w9 hg9 g50 hb9 rfl
       with_reducible refine hc.mono ?_
       clear hc
       rintro e w10 ⟨rfl, hg10, hb10, _⟩
       simp only [errW_some]))
  go_ret
  exact ⟨rfl, hW.trans (hb10.mono hW.size)⟩
set_option maxHeartbeats 4000000 in
set_option maxRecDepth 1000000 in
theorem wrong0b (n how most : Int) (m : Nat) (hm : m ≤ 1048577) (hn : n = (m : Int) - 1) (h1 : ¬ most < -1) (h2 : ¬ 1048576 < most) (hmo : ¬ most < n) (hh : how.tmod 4 = 0) (w : World) :
    Calls Try.prog 4 #[.int .i64 n, .int .u8 how, .int .i64 most] w fun e w' => e = .returned (.bool true) ∧ Below w.heap.size w w' := by
  obtain ⟨I, x, hL, hx, hI, hBI, h11, h10⟩ := spoil m hm
  have hB := bytes_encN m (by omega)
  have hnum : wire_Writer_Num.f 40 [] n = some (encN m) := wnum_f 37 m [] n hn hm (by simp)
  have hrd0 : wire_Reader_Num.f 40 (strOfNums (encN m)) none most = if (m : Int) - 1 > most then some (0, strOfNums (encN m), some 12) else some ((m : Int) - 1, strOfNums [], none) := by
    have h := rnum_f 32 m [] most (by omega) (fun x hx => by simp at hx)
    rw [List.append_nil] at h
    exact h
  rw [hL] at hB hnum hrd0
  have hlen : (I ++ [(x : Int)]).length = I.length + 1 := by simp
  have e1 : ¬ n < -1 := by omega
  have e2 : ¬ 1048576 < n := by omega
  have hu37 := Try.underlying37
  have hu42 := Try.underlying42
  generalize hN : I.length + 1 = N at hlen
  have hN0 : ¬ (N : Int) = 0 := by omega
  have hw1 : IntKind.i64.wrap ((N : Int) - 1) = (I.length : Int) := by
    simp [IntKind.wrap, IntKind.bits, IntKind.signed]; omega
  have hrd := hrd0.trans (if_neg (by omega))
  rw [← hn] at hrd
  have HN := Goto.m0 hn
  clear hn
  go_enter Try.func4, Try.ntmps4
  go_wp2_with (first
    | (go_at_call 9
       refine (tontinelaw2_known.calls 40 true rfl _ (known_f 24)).mono ?_
       rintro e w1 ⟨rfl, hb1⟩)
    | (go_at_call 10
       refine (wire_New.calls [] _ rfl).mono ?_
       rintro e w2 ⟨v0, g, rfl, ho, hg, g0, hb2⟩)
    | (go_at_call 11
       have hc := wire_Writer_Num.calls 40 g (fun _ => True) v0 [] n (I ++ [(x : Int)]) w1 _ hg g0 hb2 ho hnum
       with_reducible refine hc.mono ?_
       clear hc
       rintro e w3 ⟨v1, rfl, ho3, hg3, hb3, _⟩)
    | (go_at_call 14
       have hc := wire_Writer_String.calls g _ v1 (I ++ [(x : Int)]) _ _ w1 _ hg3 g0 hb3 ho3 rfl
       with_reducible refine hc.mono ?_
       clear hc
       rintro e w4 ⟨rfl, _, _, hb4, _⟩
       obtain ⟨wb, cap, hrun, hcap, hcm, hbb, hbs, hcell, hspare⟩ := conv_b w4 (I ++ [(x : Int)]) hB N hlen (by omega)
       have hW := hb1.trans ((hb4.trans (hbb.mono hb4.size)).mono hb1.size)
       have hs0 : (convert 40 9 (.slice (some ⟨w4.heap.size, 0, none⟩) N cap)).run Try.prog wb = .ok (.string (strOfNums (I ++ [(x : Int)]))) wb :=
         run_convert_bytes_arg wb 40 5 Try.underlying40 Try.underlying5 w4.heap.size 0 N cap (I ++ [(x : Int)]) hlen (fun i hi => by
           rw [show (0 : Nat) + i = i by omega]
           exact hcell i hi) 9 Try.underlying9)
    | (go_at_call 13
       refine (wire_Of.calls (strOfNums (I ++ [(x : Int)])) (strOfNums (I ++ [(x : Int)])) none _ rfl).mono ?_
       rintro e w5 ⟨g5, rfl, hg5, g50, hb5⟩)
    | (go_at_call 15
       have hc := wire_Reader_Num.calls 40 g5 (strOfNums (I ++ [(x : Int)])) none most n (strOfNums []) none wb w5 hg5 g50 hb5 hrd
       with_reducible refine hc.mono ?_
       clear hc
       rintro e w6 ⟨rfl, hg6, hb6, _⟩)
    | (go_at_call 18
       have hc := wire_Reader_Err.calls g5 (strOfNums []) none none _ _ wb w6 hg6 g50 hb6 rfl
       with_reducible refine hc.mono ?_
       clear hc
       rintro e w7 ⟨rfl, hg7, hb7, _⟩
       simp only [errW_none]))
  go_ret
  exact ⟨rfl, hW.trans (hb7.mono hW.size)⟩
set_option maxHeartbeats 4000000 in
set_option maxRecDepth 1000000 in
theorem wrong3 (n how most : Int) (m : Nat) (hm : m ≤ 1048577) (hn : n = (m : Int) - 1) (h1 : ¬ most < -1) (h2 : ¬ 1048576 < most) (hh : how.tmod 4 = 3) (w : World) :
    Calls Try.prog 4 #[.int .i64 n, .int .u8 how, .int .i64 most] w fun e w' => e = .returned (.bool true) ∧ Below w.heap.size w w' := by
  obtain ⟨I, x, hL, hx, hI, hBI, h11, h10⟩ := spoil m hm
  have hB := bytes_encN m (by omega)
  have hnum : wire_Writer_Num.f 40 [] n = some (encN m) := wnum_f 37 m [] n hn hm (by simp)
  have hrd0 : wire_Reader_Num.f 40 (strOfNums (encN m)) none most = if (m : Int) - 1 > most then some (0, strOfNums (encN m), some 12) else some ((m : Int) - 1, strOfNums [], none) := by
    have h := rnum_f 32 m [] most (by omega) (fun x hx => by simp at hx)
    rw [List.append_nil] at h
    exact h
  rw [hL] at hB hnum hrd0
  have hlen : (I ++ [(x : Int)]).length = I.length + 1 := by simp
  have e1 : ¬ n < -1 := by omega
  have e2 : ¬ 1048576 < n := by omega
  have hu37 := Try.underlying37
  have hu42 := Try.underlying42
  generalize hN : I.length + 1 = N at hlen
  have hN0 : ¬ (N : Int) = 0 := by omega
  have hw1 : IntKind.i64.wrap ((N : Int) - 1) = (I.length : Int) := by
    simp [IntKind.wrap, IntKind.bits, IntKind.signed]; omega
  have hrd : wire_Reader_Num.f 40 ⟨#[255, 255, 255, 255, 1]⟩ none 1048576 = some (0, ⟨#[255, 255, 255, 255, 1]⟩, some 10) := by decide +kernel
  have HN := Goto.m0 hn
  clear hn
  go_enter Try.func4, Try.ntmps4
  go_wp2_with (first
    | (go_at_call 9
       refine (tontinelaw2_known.calls 40 true rfl _ (known_f 24)).mono ?_
       rintro e w1 ⟨rfl, hb1⟩)
    | (go_at_call 10
       refine (wire_New.calls [] _ rfl).mono ?_
       rintro e w2 ⟨v0, g, rfl, ho, hg, g0, hb2⟩)
    | (go_at_call 11
       have hc := wire_Writer_Num.calls 40 g (fun _ => True) v0 [] n (I ++ [(x : Int)]) w1 _ hg g0 hb2 ho hnum
       with_reducible refine hc.mono ?_
       clear hc
       rintro e w3 ⟨v1, rfl, ho3, hg3, hb3, _⟩)
    | (go_at_call 14
       have hc := wire_Writer_String.calls g _ v1 (I ++ [(x : Int)]) _ _ w1 _ hg3 g0 hb3 ho3 rfl
       with_reducible refine hc.mono ?_
       clear hc
       rintro e w4 ⟨rfl, _, _, hb4, _⟩
       obtain ⟨wb, cap, hrun, hcap, hcm, hbb, hbs, hcell, hspare⟩ := conv_b w4 (I ++ [(x : Int)]) hB N hlen (by omega)
       have hW := hb1.trans ((hb4.trans (hbb.mono hb4.size)).mono hb1.size))
    | (go_at_call 13
       refine (wire_Of.calls ⟨#[255, 255, 255, 255, 1]⟩ ⟨#[255, 255, 255, 255, 1]⟩ none _ rfl).mono ?_
       rintro e w5 ⟨g5, rfl, hg5, g50, hb5⟩)
    | (go_at_call 15
       have hc := wire_Reader_Num.calls 40 g5 ⟨#[255, 255, 255, 255, 1]⟩ none 1048576 0 ⟨#[255, 255, 255, 255, 1]⟩ (some 10) wb w5 hg5 g50 hb5 hrd
       with_reducible refine hc.mono ?_
       clear hc
       rintro e w6 ⟨rfl, hg6, hb6, _⟩)
    | (go_at_call 18
       have hc := wire_Reader_Err.calls g5 ⟨#[255, 255, 255, 255, 1]⟩ (some 10) (some 10) _ _ wb w6 hg6 g50 hb6 rfl
       with_reducible refine hc.mono ?_
       clear hc
       rintro e w7 ⟨rfl, hg7, hb7, _⟩
       simp only [errW_some])
    | (go_at_call 19
       refine (EI.some_some 10 10 _).mono ?_
       rintro e w8 ⟨rfl, hw8⟩
       rw [hw8]))
  go_ret
  exact ⟨rfl, hW.trans (hb7.mono hW.size)⟩
set_option maxHeartbeats 4000000 in
set_option maxRecDepth 1000000 in
theorem wrong2 (n how most : Int) (m : Nat) (hm : m ≤ 1048577) (hn : n = (m : Int) - 1) (h1 : ¬ most < -1) (h2 : ¬ 1048576 < most) (hh : how.tmod 4 = 2) (w : World) :
    Calls Try.prog 4 #[.int .i64 n, .int .u8 how, .int .i64 most] w fun e w' => e = .returned (.bool true) ∧ Below w.heap.size w w' := by
  obtain ⟨I, x, hL, hx, hI, hBI, h11, h10⟩ := spoil m hm
  have hB := bytes_encN m (by omega)
  have hnum : wire_Writer_Num.f 40 [] n = some (encN m) := wnum_f 37 m [] n hn hm (by simp)
  have hrd0 : wire_Reader_Num.f 40 (strOfNums (encN m)) none most = if (m : Int) - 1 > most then some (0, strOfNums (encN m), some 12) else some ((m : Int) - 1, strOfNums [], none) := by
    have h := rnum_f 32 m [] most (by omega) (fun x hx => by simp at hx)
    rw [List.append_nil] at h
    exact h
  rw [hL] at hB hnum hrd0
  have hlen : (I ++ [(x : Int)]).length = I.length + 1 := by simp
  have e1 : ¬ n < -1 := by omega
  have e2 : ¬ 1048576 < n := by omega
  have hu37 := Try.underlying37
  have hu42 := Try.underlying42
  generalize hN : I.length + 1 = N at hlen
  have hN0 : ¬ (N : Int) = 0 := by omega
  have hw1 : IntKind.i64.wrap ((N : Int) - 1) = (I.length : Int) := by
    simp [IntKind.wrap, IntKind.bits, IntKind.signed]; omega
  have hxe : (128 + (x : Int)) = ((128 + x : Nat) : Int) := by omega
  rw [← hxe] at h10
  have hrd := err_num 38 (strOfNums (I ++ [128 + (x : Int), 0])) 1048576 10 h10
  have hor := (or128 x hx).trans hxe.symm
  clear hxe
  obtain ⟨i0, hi0, hz0, hz1, hz2⟩ := info_parts info5
  have HN := Goto.m0 hn
  clear hn
  go_enter Try.func4, Try.ntmps4
  go_wp2_with (first
    | (go_at_call 9
       refine (tontinelaw2_known.calls 40 true rfl _ (known_f 24)).mono ?_
       rintro e w1 ⟨rfl, hb1⟩)
    | (go_at_call 10
       refine (wire_New.calls [] _ rfl).mono ?_
       rintro e w2 ⟨v0, g, rfl, ho, hg, g0, hb2⟩)
    | (go_at_call 11
       have hc := wire_Writer_Num.calls 40 g (fun _ => True) v0 [] n (I ++ [(x : Int)]) w1 _ hg g0 hb2 ho hnum
       with_reducible refine hc.mono ?_
       clear hc
       rintro e w3 ⟨v1, rfl, ho3, hg3, hb3, _⟩)
    | (go_at_call 14
       have hc := wire_Writer_String.calls g _ v1 (I ++ [(x : Int)]) _ _ w1 _ hg3 g0 hb3 ho3 rfl
       with_reducible refine hc.mono ?_
       clear hc
       rintro e w4 ⟨rfl, _, _, hb4, _⟩
       obtain ⟨wb, cap, hrun, hcap, hcm, hbb, hbs, hcell, hspare⟩ := conv_b w4 (I ++ [(x : Int)]) hB N hlen (by omega)
       have hW := hb1.trans ((hb4.trans (hbb.mono hb4.size)).mono hb1.size)
       have hcx : wb.cell? ⟨w4.heap.size, I.length, none⟩ = some (.int .u8 (x : Int)) := by
         rw [hcell I.length (by omega)]
         simp [List.getD]
       have hfx := (hspare I.length (by omega)).2)
    | (at_builtin; refine wpList_append_arg _ rfl (.tmp 120) (.tmp 121) 40 rfl 5 i0 (.int .u8 0) 1 1 Try.underlying40 hi0 hz0 hz1 hz2 rfl (by decide) w4.heap.size 0 N cap ((I ++ [128 + (x : Int)]).map (Value.int .u8)) rfl ?lo ?olds _ 1 1 [.int .u8 0] rfl rfl ?c1 ?c2 ?spare ?b1 ?b2 ?room ?grow))
  case lo => simp; omega
  case olds => exact putW_old hN hbs hcell
  case c1 => intro j u hj; match j, hj with | 0, hj => simp at hj; subst hj; rw [Addr.add_lit]; exact putW_new hbs
  case c2 => intro u hu; simp at hu; subst hu; rfl
  case spare =>
    intro hr j hj
    have hj0 : j = 0 := by simpa using hj
    subst hj0
    rw [show 0 + N * 1 + 0 = N by omega]
    exact putW_spare hbs hspare N (by omega)
  case b1 => unfold maxLen; omega
  case b2 => omega
  case room =>
    intro hr
    have hcv := putW_conv (y := 128 + (x : Int)) hN hbs hcell hspare hr
    have hW2 : Below w.heap.size w ((putW wb w4.heap.size I.length (128 + (x : Int))).setCells w4.heap.size (0 + N * 1) [.int .u8 0]) := below_set (putW_below hW (hb1.trans (hb4.mono hb1.size)).size) (hb1.trans (hb4.mono hb1.size)).size
    change Below w.heap.size w (((wb.setCell ⟨w4.heap.size, I.length, none⟩ (.int .u8 (128 + (x : Int)))).alloc (.cells #[.int .u8 0] 5)).setCells w4.heap.size (0 + N * 1) [.int .u8 0]) at hW2
    simp only [putW] at hcv
    rw [show 0 + N * 1 = N by omega] at hcv hW2
    generalize (((wb.setCell ⟨w4.heap.size, I.length, none⟩ (.int .u8 (128 + (x : Int)))).alloc (.cells #[.int .u8 0] 5)).setCells w4.heap.size N [.int .u8 0]) = ws at hcv hW2 ⊢
    go_wp2_with (first
    | (go_at_call 13
       refine (wire_Of.calls (strOfNums (I ++ [128 + (x : Int), 0])) (strOfNums (I ++ [128 + (x : Int), 0])) none _ rfl).mono ?_
       rintro e w5 ⟨g5, rfl, hg5, g50, hb5⟩)
    | (go_at_call 15
       have hc := wire_Reader_Num.calls 40 g5 (strOfNums (I ++ [128 + (x : Int), 0])) none 1048576 0 (strOfNums (I ++ [128 + (x : Int), 0])) (some 10) _ w5 hg5 g50 hb5 hrd
       with_reducible refine hc.mono ?_
       clear hc
       rintro e w6 ⟨rfl, hg6, hb6, _⟩)
    | (go_at_call 18
       have hc := wire_Reader_Err.calls g5 (strOfNums (I ++ [128 + (x : Int), 0])) (some 10) (some 10) _ _ _ w6 hg6 g50 hb6 rfl
       with_reducible refine hc.mono ?_
       clear hc
       rintro e w7 ⟨rfl, hg7, hb7, _⟩
       simp only [errW_some])
    | (go_at_call 19
       refine (EI.some_some 10 10 _).mono ?_
       rintro e w8 ⟨rfl, hw8⟩
       rw [hw8]))
    go_ret
    exact ⟨rfl, hW2.trans (hb7.mono hW2.size)⟩
  case grow =>
    intro hg v' ws hown hgrow
    have e : I.map (Value.int .u8) ++ [Value.int .u8 (128 + (x : Int)), Value.int .u8 0] = (I ++ [128 + (x : Int), 0]).map (Value.int .u8) := by simp
    rw [e] at hown
    have hcv := conv_own hown (by omega)
    have hW2 := (putW_below (I := I) (y := 128 + (x : Int)) hW (hb1.trans (hb4.mono hb1.size)).size).grown hgrow (putW_below (I := I) (y := 128 + (x : Int)) hW (hb1.trans (hb4.mono hb1.size)).size).size (fun k h => by cases h)
    go_wp2_with (first
    | (go_at_call 13
       refine (wire_Of.calls (strOfNums (I ++ [128 + (x : Int), 0])) (strOfNums (I ++ [128 + (x : Int), 0])) none _ rfl).mono ?_
       rintro e w5 ⟨g5, rfl, hg5, g50, hb5⟩)
    | (go_at_call 15
       have hc := wire_Reader_Num.calls 40 g5 (strOfNums (I ++ [128 + (x : Int), 0])) none 1048576 0 (strOfNums (I ++ [128 + (x : Int), 0])) (some 10) _ w5 hg5 g50 hb5 hrd
       with_reducible refine hc.mono ?_
       clear hc
       rintro e w6 ⟨rfl, hg6, hb6, _⟩)
    | (go_at_call 18
       have hc := wire_Reader_Err.calls g5 (strOfNums (I ++ [128 + (x : Int), 0])) (some 10) (some 10) _ _ _ w6 hg6 g50 hb6 rfl
       with_reducible refine hc.mono ?_
       clear hc
       rintro e w7 ⟨rfl, hg7, hb7, _⟩
       simp only [errW_some])
    | (go_at_call 19
       refine (EI.some_some 10 10 _).mono ?_
       rintro e w8 ⟨rfl, hw8⟩
       rw [hw8]))
    go_ret
    exact ⟨rfl, hW2.trans (hb7.mono hW2.size)⟩
set_option maxHeartbeats 1000000 in
set_option maxRecDepth 1000000 in
theorem wrong_calls (n how most : Int) (hh : 0 ≤ how) (w : World) : Calls Try.prog 4 #[.int .i64 n, .int .u8 how, .int .i64 most] w fun e w' => e = .returned (.bool true) ∧ Below w.heap.size w w' := by
  by_cases hg : n < -1 ∨ ¬ n < -1 ∧ (1048576 < n ∨ ¬ 1048576 < n ∧ (most < -1 ∨ ¬ most < -1 ∧ 1048576 < most))
  · rcases hg with e1 | ⟨e1, e2 | ⟨e2, e3 | ⟨e3, e4⟩⟩⟩
    all_goals (
      go_enter Try.func4, Try.ntmps4
      go_wp2_with (first
        | (go_at_call 9
           refine (tontinelaw2_known.calls 40 true rfl _ (known_f 24)).mono ?_
           rintro e w1 ⟨rfl, hb1⟩))
      go_ret
      exact ⟨rfl, hb1⟩)
  · have h1 : ¬ most < -1 := by omega
    have h2 : ¬ 1048576 < most := by omega
    have hn : n = ((n + 1).toNat : Int) - 1 := by omega
    have hm : (n + 1).toNat ≤ 1048577 := by omega
    have h4 : how.tmod 4 = 0 ∨ how.tmod 4 = 1 ∨ how.tmod 4 = 2 ∨ how.tmod 4 = 3 := by
      rw [Int.tmod_eq_emod_of_nonneg hh]; omega
    rcases h4 with h | h | h | h
    · by_cases hmo : most < n
      · exact wrong0a n how most _ hm hn h1 h2 hmo h w
      · exact wrong0b n how most _ hm hn h1 h2 hmo h w
    · exact wrong1 n how most _ hm hn h1 h2 h w
    · exact wrong2 n how most _ hm hn h1 h2 h w
    · exact wrong3 n how most _ hm hn h1 h2 h w
end Go.Proofs.Ytiejhnijfgdapaa.P
