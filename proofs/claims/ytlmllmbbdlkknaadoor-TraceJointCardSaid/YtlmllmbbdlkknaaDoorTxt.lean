/- trace.Text, of rows of at most sixty: each one's line and a line's end. Its text is walked; the Builder's methods by the shelf's contracts. -/
import Derived.Test.YtlmllmbbdlkknaaDoorPx3
import Derived.Test.YtlmllmbbdlkknaaDoorIto
import Derived.WalkKit
import Derived.BigCall
import Derived.Lib.AppendStr
namespace Go.Proofs.YtlmllmbbdlkknaaDoor.P
open Go Go.RowKit Go.Proofs.YtlmllmbbdlkknaaDoorW.PrintWords Go.Proofs.YtlmllmbbdlkknaaDoorW.PrintLast
/-- A Builder stays one while all that lay there stays. -/
theorem builder_below {T e : TypeId} {B b : Nat} {bs : List Value} {w w1 : World} (h : Lib.IsBuilderF T e B b bs w) (hb : Below w.heap.size w w1) : Lib.IsBuilderF T e B b bs w1 := by
  have key : ∀ p, Lib.BuilderAtF T e B b p bs w → Lib.BuilderAtF T e B b p bs w1 := by
    intro p hp
    have hlt := hp.lt
    obtain ⟨hB, v, hh, hown, hne⟩ := hp
    refine ⟨hB, v, (hb.block b hlt).trans hh, hown.kept (row := none) (grown_of_below hb none) ?_, hne⟩
    cases v.ownBlock with
    | none => exact .inl rfl
    | some k => exact .inr (by simp)
  exact h.elim (fun x => .inl (key _ x)) (fun x => .inr (key _ x))
theorem bytes_cells (l : List UInt8) : Lib.strCells ⟨l.toArray⟩ = Lib.byteCells l := by
  simp [Lib.strCells, Lib.byteCells]
/-- The line of one. -/
def lineL (o : S35) : List UInt8 :=
  if o.f1 = 1 then itoaF o.f0 ++ [32, 114, 117, 110, 32] ++ itoaF o.f2
  else if o.f1 = 2 then itoaF o.f0 ++ [32, 114, 101, 112, 108, 121, 32] ++ itoaF o.f2 ++ [32] ++ itoaF o.f3 ++ [32] ++ itoaF o.f4 ++ [32] ++ itoaF o.f5
  else []
def in64 (x : Int) : Bool := decide (-9223372036854775808 ≤ x) && decide (x ≤ 9223372036854775807)
def okO (o : S35) : Bool := in64 o.f0 && in64 o.f2 && in64 o.f3 && in64 o.f4 && in64 o.f5
theorem digF_len : ∀ (n u : Nat), 1 ≤ (digF n u).length ∧ (digF n u).length ≤ n + 1
  | 0, u => by simp [digF]
  | n + 1, u => by
    have := digF_len n (u / 10)
    unfold digF
    split
    · simp
    · simp; omega
theorem itoaF_len (x : Int) : (itoaF x).length ≤ 21 := by
  unfold itoaF
  split
  · have := digF_len 19 x.natAbs
    simp; omega
  · have := digF_len 19 x.toNat
    omega
theorem lineL_len (o : S35) : (lineL o).length ≤ 130 := by
  have h0 := itoaF_len o.f0
  have h2 := itoaF_len o.f2
  have h3 := itoaF_len o.f3
  have h4 := itoaF_len o.f4
  have h5 := itoaF_len o.f5
  unfold lineL
  split
  · simp; omega
  · split
    · simp; omega
    · simp
theorem ito_f {x : Int} (h : in64 x = true) : ext_33.f x = some ⟨(itoaF x).toArray⟩ := by
  unfold in64 at h
  simp only [Bool.and_eq_true, decide_eq_true_eq] at h
  exact if_pos h
theorem ba_append (l m : List UInt8) : (⟨l.toArray⟩ : ByteArray) ++ ⟨m.toArray⟩ = ⟨(l ++ m).toArray⟩ := by
  apply ByteArray.ext
  rw [ByteArray.data_append]
  simp
theorem ba_size (l : List UInt8) : (⟨l.toArray⟩ : ByteArray).size = l.length := by
  show l.toArray.size = _
  simp
def joined (l : List Int) : List UInt8 := l.flatMap fun x => 32 :: itoaF x
theorem joined_len (l : List Int) : (joined l).length ≤ 22 * l.length := by
  induction l with
  | nil => simp [joined]
  | cons x l ih =>
    have := itoaF_len x
    simp only [joined, List.flatMap_cons, List.length_append, List.length_cons] at ih ⊢
    omega
theorem words_l (l : List Int) (hl : l.length ≤ 10) (hin : ∀ x ∈ l, in64 x = true) : ∀ (d i k : Nat) (acc : List UInt8), i + d = l.length → d < k → acc.length ≤ 1000 + 22 * i →
    trace_words.l0 k ⟨acc.toArray⟩ l (l.length : Int) (i : Int) = some ⟨(acc ++ joined (l.drop i)).toArray⟩ := by
  intro d
  induction d with
  | zero =>
    intro i k acc hi hk ha
    obtain ⟨k, rfl⟩ : ∃ m, k = m + 1 := ⟨k - 1, by omega⟩
    simp only [trace_words.l0]
    rw [if_neg (by omega), List.drop_of_length_le (by omega)]
    simp [joined]
  | succ d ih =>
    intro i k acc hi hk ha
    obtain ⟨k, rfl⟩ : ∃ m, k = m + 1 := ⟨k - 1, by omega⟩
    have hil : i < l.length := by omega
    have ex : l.drop i = l[i] :: l.drop (i + 1) := List.drop_eq_getElem_cons hil
    have hrd : rd l (i : Int) = l[i] := by simp [rd, hil]
    have hw : wrap64 ((i : Int) + 1) = ((i + 1 : Nat) : Int) := by unfold wrap64; omega
    have hlen := itoaF_len l[i]
    have h := ih (i + 1) k (acc ++ (32 :: itoaF l[i])) (by omega) (by omega) (by simp; omega)
    simp only [trace_words.l0]
    rw [if_pos (by omega), if_pos (by omega), if_pos (by omega), hrd, ito_f (hin _ (List.getElem_mem hil))]
    simp only [Option.bind_some]
    have e1 : ((⟨#[32]⟩ : ByteArray) ++ ⟨(itoaF l[i]).toArray⟩) = ⟨(32 :: itoaF l[i]).toArray⟩ := ba_append [32] _
    have e2 : joined (l.drop i) = (32 :: itoaF l[i]) ++ joined (l.drop (i + 1)) := by
      rw [ex]
      simp only [joined, List.flatMap_cons]
    rw [e1, ba_append, ba_size, ba_size, ba_size, if_pos (by omega), if_pos (by simp; omega), hw, h, e2, List.append_assoc]
theorem words_f (x : Int) (v : List UInt8) (l : List Int) (hx : in64 x = true) (hv : v.length ≤ 100) (hl : l.length ≤ 7) (hin : ∀ x ∈ l, in64 x = true) :
    trace_words.f 8 x ⟨v.toArray⟩ l = some ⟨(itoaF x ++ [32] ++ v ++ joined l).toArray⟩ := by
  have hlen := itoaF_len x
  unfold trace_words.f
  rw [ito_f hx]
  simp only [Option.bind_some]
  have e1 : ((⟨(itoaF x).toArray⟩ : ByteArray) ++ (⟨#[32]⟩ : ByteArray)) = ⟨(itoaF x ++ [32]).toArray⟩ := ba_append _ [32]
  rw [ba_size, if_pos (by omega), e1, ba_size, ba_size, if_pos (by simp; omega), ba_append]
  have h := words_l l (by omega) hin l.length 0 8 (itoaF x ++ [32] ++ v) (by omega) (by omega) (by simp; omega)
  simpa using h
theorem line_f (o : S35) (h : okO o = true) : trace_Line.f 8 o.f0 o.f1 o.f2 o.f3 o.f4 o.f5 = some ⟨(lineL o).toArray⟩ := by
  unfold okO at h
  simp only [Bool.and_eq_true] at h
  obtain ⟨⟨⟨⟨h0, h2⟩, h3⟩, h4⟩, h5⟩ := h
  unfold trace_Line.f lineL
  split
  · have e := words_f o.f0 [114, 117, 110] [o.f2] h0 (by decide) (by simp) (by simpa using h2)
    have e' : trace_words.f 8 o.f0 (⟨#[114, 117, 110]⟩ : ByteArray) [o.f2] = _ := e
    rw [e']
    simp [joined]
  · split
    · have e := words_f o.f0 [114, 101, 112, 108, 121] [o.f2, o.f3, o.f4, o.f5] h0 (by decide) (by simp) (by simp [h2, h3, h4, h5])
      have e' : trace_words.f 8 o.f0 (⟨#[114, 101, 112, 108, 121]⟩ : ByteArray) [o.f2, o.f3, o.f4, o.f5] = _ := e
      rw [e']
      simp [joined]
    · rfl
def textL (l : List S35) : List UInt8 := l.flatMap fun o => lineL o ++ [10]
theorem textL_len (l : List S35) : (textL l).length ≤ 131 * l.length := by
  induction l with
  | nil => simp [textL]
  | cons x l ih =>
    have := lineL_len x
    simp only [textL, List.flatMap_cons, List.length_append, List.length_cons, List.length_nil] at ih ⊢
    omega
theorem textL_succ (l : List S35) (i : Nat) (h : i < l.length) : textL (l.take (i + 1)) = textL (l.take i) ++ (lineL (rd_T35 l i) ++ [10]) := by
  have hr : rd_T35 l i = l[i] := by simp [rd_T35, h]
  have e : l.take (i + 1) = l.take i ++ [l[i]] := (List.take_append_getElem h).symm
  rw [hr, e]
  simp only [textL, List.flatMap_append, List.flatMap_cons, List.flatMap_nil, List.append_nil]
def ext_13.f (l : List S35) : Option ByteArray := if l.length ≤ 60 ∧ l.all okO = true then some ⟨(textL l).toArray⟩ else none
set_option maxHeartbeats 1000000 in
set_option maxRecDepth 1000000 in
theorem ext_13.calls (A : Option Addr) (c : Nat) (l : List S35) (r : ByteArray) (w : World) (hld : Lib.TabIs Tryd.prog w "internal/strconv.uint64pow10" .u64 Lib.pow10Tab) (hr : Kd.C k35 w A l.length l) (hc : l.length ≤ c) (h : ext_13.f l = some r) :
    Calls Tryd.prog 13 #[.slice A l.length c] w fun e w' => e = .returned (.string r) ∧ Below w.heap.size w w' := by
  unfold ext_13.f at h
  split at h
  · rename_i hl
    obtain rfl := Option.some.inj h
    obtain ⟨hl, hok⟩ := hl
    generalize hn : l.length = n at hr hc
    clear h
    go_enter Tryd.func13, Tryd.ntmps13
    go_wp2
    go_loopw [8] (fun v wr => ∃ i : Nat, i ≤ n ∧ v = .int .i64 (i : Nat) ∧ Lib.IsBuilderF 60 5 w.heap.size w.heap.size (Lib.byteCells (textL (l.take i))) wr ∧ Below w.heap.size w wr)
      (fun v _ => n - (Lib.intOf v).toNat)
    case atStart =>
      refine ⟨0, Nat.zero_le _, rfl, Lib.IsBuilderF.of (Lib.fresh_isBuilder 60 5 w), (Below.refl _ w).alloc (Nat.le_refl _) _⟩
    case round =>
      obtain ⟨i, hi, rfl, hI, hbw⟩ := hrel
      by_cases hlt : i < n
      · have hra := Kd.C_below hr hbw
        obtain ⟨ad, rfl, c0, c1, c2, c3, c4, c5⟩ := at_T35 hra (i : Int) (by omega) (by omega)
        have htab := Goto.kt hbw hld
        simp only [Int.toNat_natCast] at c0 c1 c2 c3 c4 c5
        generalize ho : rd_T35 l (i : Int) = o at c0 c1 c2 c3 c4 c5
        have hoo : okO o = true := by
          rw [← ho]
          have hm : rd_T35 l (i : Int) ∈ l := by
            have hil : i < l.length := by omega
            have : rd_T35 l (i : Int) = l[i] := by simp [rd_T35, hil]
            rw [this]
            exact List.getElem_mem hil
          exact List.all_eq_true.1 hok _ hm
        have hlen := textL_len (l.take i)
        have hlen2 : (textL (l.take i)).length ≤ 131 * 60 := by
          have := List.length_take_le i l
          have h3 : (l.take i).length ≤ 60 := by omega
          exact Nat.le_trans hlen (Nat.mul_le_mul_left 131 h3)
        have hlo := lineL_len o
        have hb1 : ∀ X, Below wr.heap.size wr (wr.alloc X) := fun X => (Below.refl _ wr).alloc (Nat.le_refl _) _
        go_wp2_with (first
          | (go_at_call 9; refine (trace_Line.calls 8 o.f0 o.f1 o.f2 o.f3 o.f4 o.f5 _ _ (Goto.kt (hb1 _) htab) (line_f o hoo)).mono ?_; rintro e w2 ⟨rfl, hb2⟩)
          | (go_at_call 30
             have hw2 : Below wr.heap.size wr w2 := (hb1 _).trans (hb2.mono (by simp))
             have hcat : ((⟨(lineL o).toArray⟩ : ByteArray) ++ (⟨#[10]⟩ : ByteArray)) = ⟨(lineL o ++ [10]).toArray⟩ := ba_append _ [10]
             have hsz : w.heap.size ≤ w2.heap.size := Nat.le_trans hbw.size hw2.size
             have hl2 : (Lib.byteCells (textL (l.take i))).length + (⟨(lineL o ++ [10]).toArray⟩ : ByteArray).size ≤ 140737488355328 := by
               rw [ba_size, Lib.byteCells_length, List.length_append, List.length_singleton]
               omega
             have key := Tryd.Builder_WriteString_f w.heap.size w.heap.size (Lib.byteCells (textL (l.take i))) ⟨(lineL o ++ [10]).toArray⟩ w2 (builder_below hI hw2) hl2 hsz
             rw [← hcat] at key
             with_reducible refine key.mono ?_
             rintro e w3 ⟨rfl, hI3, hb3⟩))
        go_roundw
        case rel =>
          refine ⟨i + 1, by omega, by simp, ?_, hbw.trans (((hb1 _).trans (hb2.mono (by simp))).mono hbw.size |>.trans hb3)⟩
          rw [textL_succ l i (by omega), ho, Lib.byteCells_append, ← bytes_cells (lineL o ++ [10])]
          exact .inr hI3
        case measure =>
          simp [Lib.intOf]
          omega
      · have hin : i = n := by omega
        subst hin
        have ht : l.take i = l := List.take_of_length_le (by omega)
        rw [ht] at hI
        go_wp2_with (first
          | (go_at_call 31; refine (Tryd.Builder_String_any_f w.heap.size w.heap.size (textL l) _ hI hbw.size).mono ?_; rintro e w4 ⟨rfl, hI4, hb4⟩))
        go_ret
        exact ⟨rfl, hbw.trans hb4⟩
  · cases h
end Go.Proofs.YtlmllmbbdlkknaaDoor.P
