/- trace.Joint, of at most twenty domains and rows of at most sixty: of each domain below the label its number and its text. Walked by hand over trace.Below, trace.Text, strconv.Itoa and the Builder's contracts. -/
import Derived.Test.YtlmllmbbdlkknaaDoorPx5
import Derived.Test.YtlmllmbbdlkknaaDoorTxt
import Derived.Deep.RegionHeld3
namespace Go.Proofs.YtlmllmbbdlkknaaDoor.P
open Go Go.RowKit Go.Proofs.YtlmllmbbdlkknaaDoorW.PrintWords Go.Proofs.YtlmllmbbdlkknaaDoorW.PrintLast
def lowB (doms : List S46) (la lb : Int) (d : Nat) : Bool := decide ((rd_T46 doms d).f0.f0 ≤ la) && (bits .andNot .u64 (rd_T46 doms d).f0.f1 lb == 0)
def belowL (doms : List S46) (la lb : Int) (n : Nat) : List Nat := (List.range n).filter (lowB doms la lb)
theorem belowL_succ (doms : List S46) (la lb : Int) (n : Nat) : belowL doms la lb (n + 1) = belowL doms la lb n ++ if lowB doms la lb n then [n] else [] := by
  unfold belowL
  rw [List.range_succ, List.filter_append]
  congr 1
  cases h : lowB doms la lb n <;> simp [h]
theorem belowL_len (doms : List S46) (la lb : Int) (n : Nat) : (belowL doms la lb n).length ≤ n := by
  have := List.length_filter_le (lowB doms la lb) (List.range n)
  simpa [belowL] using this
theorem leq_b (doms : List S46) (la lb : Int) (d : Nat) : label_Leq.f (rd_T46 doms d).f0.f0 (rd_T46 doms d).f0.f1 la lb = some (lowB doms la lb d) := by
  unfold label_Leq.f lowB
  by_cases h : (rd_T46 doms d).f0.f0 ≤ la <;> simp [h]
theorem below_l (a b : Int) (plans : List (List Int)) (doms : List S46) (la lb : Int) (n : Nat) (hn : n ≤ doms.length) (h20 : doms.length ≤ 20) : ∀ (d i k : Nat), i + d = n → d < k →
    trace_Below.l0 k ((belowL doms la lb i).map Int.ofNat) (n : Int) (i : Int) a b plans doms la lb = some ((belowL doms la lb n).map Int.ofNat) := by
  intro d
  induction d with
  | zero =>
    intro i k hi hk
    obtain ⟨k, rfl⟩ : ∃ m, k = m + 1 := ⟨k - 1, by omega⟩
    simp only [trace_Below.l0]
    rw [if_neg (by omega), show i = n by omega]
  | succ d ih =>
    intro i k hi hk
    obtain ⟨k, rfl⟩ : ∃ m, k = m + 1 := ⟨k - 1, by omega⟩
    have h := ih (i + 1) k (by omega) (by omega)
    have hw : wrap64 ((i : Int) + 1) = ((i + 1 : Nat) : Int) := by unfold wrap64; omega
    have hl := belowL_len doms la lb i
    simp only [trace_Below.l0]
    rw [if_pos (by omega), if_pos (by omega), if_pos (by omega), leq_b, Option.bind_some]
    rw [belowL_succ] at h
    cases hb : lowB doms la lb i with
    | true =>
      rw [if_pos rfl, if_pos (by rw [List.length_map]; omega), hw, ← h, hb]
      simp
    | false =>
      rw [if_neg (by simp), hw, ← h, hb]
      simp
theorem below_f (a b : Int) (plans : List (List Int)) (doms : List S46) (tr : List (List S35)) (la lb : Int) (h20 : doms.length ≤ 20) :
    trace_Below.f 30 a b plans doms tr la lb = some ((belowL doms la lb (min doms.length tr.length)).map Int.ofNat) := by
  unfold trace_Below.f
  have hm : mn (doms.length : Int) (tr.length : Int) = ((min doms.length tr.length : Nat) : Int) := by unfold mn; omega
  rw [hm]
  have := below_l a b plans doms la lb (min doms.length tr.length) (by omega) h20 (min doms.length tr.length) 0 30 (by omega) (by omega)
  simpa [belowL] using this
/-- What one domain's part is. -/
def partL (tr : List (List S35)) (d : Nat) : List UInt8 := [100, 111, 109, 97, 105, 110, 32] ++ itoaF (d : Int) ++ [10] ++ textL (rd_L4 tr (d : Int))
def jointL (tr : List (List S35)) (l : List Nat) : List UInt8 := l.flatMap (partL tr)
def okT (tr : List (List S35)) : Bool := tr.all fun l => decide (l.length ≤ 60) && l.all okO
def ext_18.f (_a _b : Int) (_plans : List (List Int)) (doms : List S46) (tr : List (List S35)) (la lb : Int) : Option ByteArray :=
  if doms.length ≤ 20 ∧ okT tr = true then some ⟨(jointL tr (belowL doms la lb (min doms.length tr.length))).toArray⟩ else none
theorem okT_at {tr : List (List S35)} (h : okT tr = true) {d : Nat} (hd : d < tr.length) : (rd_L4 tr (d : Int)).length ≤ 60 ∧ (rd_L4 tr (d : Int)).all okO = true := by
  have e : rd_L4 tr (d : Int) = tr[d] := by simp [rd_L4, hd]
  have := List.all_eq_true.1 h tr[d] (List.getElem_mem hd)
  rw [e]
  simpa using this
theorem partL_len (tr : List (List S35)) (d : Nat) (h : (rd_L4 tr (d : Int)).length ≤ 60) : (partL tr d).length ≤ 8000 := by
  have h1 := textL_len (rd_L4 tr (d : Int))
  have h2 := itoaF_len (d : Int)
  unfold partL
  simp only [List.length_append, List.length_cons, List.length_nil]
  omega
theorem jointL_len (tr : List (List S35)) : ∀ (l : List Nat), (∀ d ∈ l, (rd_L4 tr (d : Int)).length ≤ 60) → (jointL tr l).length ≤ 8000 * l.length
  | [], _ => by simp [jointL]
  | d :: l, h => by
    have h1 := partL_len tr d (h d List.mem_cons_self)
    have h2 := jointL_len tr l (fun x hx => h x (List.mem_cons_of_mem _ hx))
    simp only [jointL, List.flatMap_cons, List.length_append, List.length_cons] at h2 ⊢
    omega
theorem jointL_succ (tr : List (List S35)) (l : List Nat) (i : Nat) (h : i < l.length) : jointL tr (l.take (i + 1)) = jointL tr (l.take i) ++ partL tr l[i] := by
  have e : l.take (i + 1) = l.take i ++ [l[i]] := (List.take_append_getElem h).symm
  rw [e]
  simp only [jointL, List.flatMap_append, List.flatMap_cons, List.flatMap_nil, List.append_nil]
theorem others_below {e : TypeId} {b : Option Nat} {w w1 : World} (h : Below w.heap.size w w1) : Lib.OthersKept e b w w1 := fun k _ hk _ _ => (h.block k (Array.getElem?_eq_some_iff.1 hk).1).trans hk
/-- A row of ints that the call has made, beside a Builder that is written. -/
theorem row_kept {w1 wr : World} {base b : Nat} {v : Value} {xs : List Int} (hR : Kd.R (Kd.int .i64) 3 w1 base (fun _ => True) v xs) (hb : b < base) (hk : Lib.OthersKept 5 (some b) w1 wr) : Kd.R (Kd.int .i64) 3 wr base (fun _ => True) v xs := by
  refine Kd.R_mono (Kd.R_step (Kd.R_bound hR) (fun k ho _ => ?_)) (fun _ _ => trivial)
  obtain ⟨_, hk1, _, q, hq, cells, hcell⟩ := ho
  rw [hcell]
  refine hk k _ hcell (fun e => by cases e; omega) (fun c fz e => ?_)
  simp only [Obj.cells.injEq] at e
  have hq3 : q = 3 := by simpa [Kd.int, Kd.scalar] using hq
  rw [hq3] at e
  exact absurd e.2.1 (by decide)
set_option maxHeartbeats 1000000 in
set_option maxRecDepth 1000000 in
theorem ext_18.calls (a b : Int) (A2 : Option Addr) (c2 : Nat) (plans : List (List Int)) (A3 : Option Addr) (c3 : Nat) (doms : List S46) (A1 : Option Addr) (c1 : Nat) (tr : List (List S35)) (la lb : Int) (r : ByteArray) (w : World) (hld : Lib.TabIs Tryd.prog w "internal/strconv.uint64pow10" .u64 Lib.pow10Tab)
    (hr2 : Kd.C (Kd.slice 3 (Kd.int .i64)) w A2 plans.length plans) (hc2 : plans.length ≤ c2) (hr3 : Kd.C k46 w A3 doms.length doms) (hc3 : doms.length ≤ c3) (hr1 : Kd.C (Kd.slice 35 k35) w A1 tr.length tr) (hc1 : tr.length ≤ c1) (h : ext_18.f a b plans doms tr la lb = some r) :
    Calls Tryd.prog 18 #[.agg #[.int .i64 a, .int .i64 b, .slice A2 plans.length c2, .slice A3 doms.length c3], .slice A1 tr.length c1, .agg #[.int .i64 la, .int .u64 lb]] w fun e w' => e = .returned (.string r) ∧ Below w.heap.size w w' := by
  unfold ext_18.f at h
  split at h
  · rename_i hl
    obtain rfl := Option.some.inj h
    obtain ⟨h20, hok⟩ := hl
    clear h
    have hbf := below_f a b plans doms tr la lb h20
    generalize hL : belowL doms la lb (min doms.length tr.length) = L at hbf
    have hLen : L.length ≤ 20 := by
      have := belowL_len doms la lb (min doms.length tr.length)
      rw [hL] at this
      omega
    have hmem : ∀ d ∈ L, d < tr.length ∧ d < 20 := by
      intro d hd
      rw [← hL] at hd
      have := (List.mem_filter.1 hd).1
      have := List.mem_range.1 this
      omega
    go_enter Tryd.func18, Tryd.ntmps18
    go_wp2_with (first
      | (go_at_call 16
         have hbW := fun X Y Z => (((Below.refl w.heap.size w).alloc (Nat.le_refl _) X).alloc (by simp) Y).alloc (by simp; omega) Z
         refine (trace_Below.calls 30 a b A2 c2 plans A3 c3 doms A1 c1 tr la lb (L.map Int.ofNat) _ (Kd.C_below hr2 (hbW _ _ _)) hc2 (Kd.C_below hr3 (hbW _ _ _)) hc3 (Kd.C_below hr1 (hbW _ _ _)) hc1 hbf).mono ?_
         rintro e w1 ⟨v0, rfl, hR, hb1⟩
         obtain ⟨A5, c5, rfl, hc5, hC5⟩ := Kd.R_reads hR))
    have hW1 := (hbW _ _ _).trans (hb1.mono (by simp; omega))
    have hI1 := builder_below (Lib.IsBuilderF.of (Lib.fresh_isBuilder 60 5 _)) hb1
    clear hb1 hbW hr2 hr3
    simp only [World.size_alloc] at hR hI1
    go_loopw [15] (fun v wr => ∃ i : Nat, i ≤ L.length ∧ v = .int .i64 (i : Nat) ∧ Lib.IsBuilderF 60 5 (w.heap.size + 1 + 1) (w.heap.size + 1 + 1) (Lib.byteCells (jointL tr (L.take i))) wr ∧ Below w.heap.size w wr ∧ Lib.OthersKept 5 (some (w.heap.size + 1 + 1)) w1 wr)
      (fun v _ => L.length - (Lib.intOf v).toNat)
    case atStart =>
      exact ⟨0, Nat.zero_le _, rfl, hI1, hW1, Lib.OthersKept.refl _ _ _⟩
    case round =>
      obtain ⟨i, hi, rfl, hI, hbw, hot⟩ := hrel
      by_cases hlt : i < L.length
      · have hrow := row_kept hR (b := w.heap.size + 1 + 1) (by omega) hot
        have hC := (Kd.R_reads' hrow).2.2
        obtain ⟨ad5, rfl, hd0⟩ := Kd.at_int hC (i : Int) (by omega) (by rw [List.length_map]; omega)
        have hrd : rd (L.map Int.ofNat) (i : Int) = ((L[i] : Nat) : Int) := by simp [rd, hlt]
        rw [hrd] at hd0
        simp only [Int.toNat_natCast] at hd0
        obtain ⟨hdm, hd20⟩ := hmem _ (List.getElem_mem hlt)
        generalize hd : L[i] = d at hd0 hdm hd20
        obtain ⟨ad1, A0, c0, rfl, hc00, hcl, hCd0⟩ := at_L4 hr1 (d : Int) (by omega) (by omega)
        simp only [Int.toNat_natCast] at hc00
        have hlt1 := World.block_lt_of_cell? w _ hc00
        have hc0 := Goto.kc hbw hc00
        have hCd := Kd.C_below hCd0 hbw
        obtain ⟨ho60, hoo⟩ := okT_at hok hdm
        generalize hrow' : rd_L4 tr (d : Int) = row at hc0 hcl hCd ho60 hoo
        clear hc00 hCd0
        have htab := Goto.kt hbw hld
        have hin : in64 (d : Int) = true := by
          unfold in64
          simp only [Bool.and_eq_true, decide_eq_true_eq]
          omega
        have h13 : ext_13.f row = some ⟨(textL row).toArray⟩ := if_pos ⟨ho60, hoo⟩
        have hid := itoaF_len (d : Int)
        have htl : (textL row).length ≤ 7860 := by
          have := textL_len row
          omega
        have htabd : Lib.TabIs Tryd.prog wr.drew "internal/strconv.uint64pow10" .u64 Lib.pow10Tab := htab
        have hCdd := Kd.C_drew hCd
        have hbd := below_drew (Below.refl wr.heap.size wr)
        have hcat0 : ((⟨#[100, 111, 109, 97, 105, 110, 32]⟩ : ByteArray) ++ ⟨(itoaF (d : Int)).toArray⟩ ++ (⟨#[10]⟩ : ByteArray) ++ ⟨(textL row).toArray⟩) = ⟨(partL tr d).toArray⟩ := by
          have e1 := ba_append [100, 111, 109, 97, 105, 110, 32] (itoaF (d : Int))
          have e2 := ba_append ([100, 111, 109, 97, 105, 110, 32] ++ itoaF (d : Int)) [10]
          have e3 := ba_append ([100, 111, 109, 97, 105, 110, 32] ++ itoaF (d : Int) ++ [10]) (textL row)
          unfold partL
          rw [hrow', ← e3, ← e2, ← e1]
        have hjl : (jointL tr (L.take i)).length ≤ 8000 * 20 := by
          have h1 := jointL_len tr (L.take i) (fun x hx => (okT_at hok (hmem x (List.mem_of_mem_take hx)).1).1)
          have h2 := List.length_take_le i L
          exact Nat.le_trans h1 (Nat.mul_le_mul_left 8000 (by omega))
        have hpl := partL_len tr d (by rw [hrow']; exact ho60)
        have hBr : w.heap.size + 1 + 1 ≤ wr.heap.size := by
          have := hI.elim (fun x => x.lt) (fun x => x.lt)
          omega
        have s1 : ¬ 9223372036854775807 < 7 + (itoaF (d : Int)).length := by omega
        have s2 : ¬ 9223372036854775807 < 7 + (itoaF (d : Int)).length + 1 := by omega
        have s3 : ¬ 9223372036854775807 < 7 + (itoaF (d : Int)).length + 1 + (textL row).length := by omega
        go_wp2_with fail
        go_region_held3 (fun w' => w'.cell? (ad1.add d) = some (.slice A0 row.length c0)) (go_keep)
          (first
            | (go_at_call 33
               refine (ext_33.calls (d : Int) _ wr.drew htab (ito_f hin)).mono ?_
               rintro e w2 ⟨rfl, hb2⟩
               have hcw := Goto.kc hb2 (show wr.drew.cell? (ad1.add d) = _ from hc0))
            | (go_at_call 13
               refine (ext_13.calls A0 c0 row _ _ (Goto.kt hb2 htabd) (Kd.C_below hCdd hb2) hcl h13).mono ?_
               rintro e w3 ⟨rfl, hb3⟩
               have hcw3 := Goto.kc hb3 hcw)
            | (go_at_call 30
               have hw3 := (hbd.trans hb2).trans (hb3.mono hb2.size)
               have hl2 : (Lib.byteCells (jointL tr (L.take i))).length + (⟨(partL tr d).toArray⟩ : ByteArray).size ≤ 140737488355328 := by
                 rw [ba_size, Lib.byteCells_length]
                 omega
               have key := Tryd.Builder_WriteString_k (w.heap.size + 1 + 1) (w.heap.size + 1 + 1) (Lib.byteCells (jointL tr (L.take i))) ⟨(partL tr d).toArray⟩ w3 (builder_below hI hw3) hl2 (Nat.le_trans hBr hw3.size)
               with_reducible refine key.mono ?_
               rintro e w4 ⟨rfl, hI4, hb4, hk4⟩
               have hcw4 := (hb4.cell (Nat.lt_of_lt_of_le hlt1 (by omega))).trans hcw3))
        all_goals (
          go_wp2
          go_roundw
          case rel =>
            refine ⟨i + 1, by omega, by simp, ?_, hbw.trans ((hw3.mono hbw.size).trans (hb4.mono (by omega))), ?_⟩
            · rw [jointL_succ tr L i hlt, hd, Lib.byteCells_append, ← bytes_cells (partL tr d)]
              exact .inr hI4
            · exact ((hot.trans (others_below hw3)).trans hk4)
          case measure =>
            simp [Lib.intOf]
            omega)
      · have hin : i = L.length := by omega
        subst hin
        have ht : L.take L.length = L := List.take_of_length_le (Nat.le_refl _)
        rw [ht] at hI
        have hBr : w.heap.size + 1 + 1 ≤ wr.heap.size := by
          have := hI.elim (fun x => x.lt) (fun x => x.lt)
          omega
        go_wp2_with (first
          | (go_at_call 31; refine (Tryd.Builder_String_any_f (w.heap.size + 1 + 1) (w.heap.size + 1 + 1) (jointL tr L) _ hI hBr).mono ?_; rintro e w4 ⟨rfl, hI4, hb4⟩))
        go_ret
        exact ⟨rfl, hbw.trans (hb4.mono (by omega))⟩
  · cases h
end Go.Proofs.YtlmllmbbdlkknaaDoor.P
