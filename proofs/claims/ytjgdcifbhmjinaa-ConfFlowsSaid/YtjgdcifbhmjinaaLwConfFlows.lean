/- ConfFlows, out of the evaluator: two labels by how their levels and sets compare. -/
import Derived.Test.YtjgdcifbhmjinaaEvKn
namespace Go.Proofs.Ytjgdcifbhmjinaa.P
open Go Go.RowKit Go.Proofs.Ytjgdcifbhmjinaa.Ev Go.Proofs.Ytjgdcifbhmjinaa.EvX
def cfR : List Fact := [.const .lss 0 false, .const .gtr 255 false, .const .geq 0 true, .const .leq 255 true]
def cfL (j : Nat) (le eq : Bool) : List Fact := .with_ .leq j le :: .with_ .eql j eq :: cfR
def cfC (j l : Nat) (z eq : Bool) : List Fact := [.made j l z, .with_ .eql j eq]
def cfA (fl fc : List Fact) (i : Nat) : Val := .agg [.sy .i64 i fl, .sy .u64 (i + 1) fc]
theorem cf_e1f : truth Try.prog exK evF 1000000 100 8 [cfA [.const .lss 0 true] [] 0, cfA [] [] 2, .sc (.bool false)] = true := by decide +kernel
theorem cf_e2f : truth Try.prog exK evF 1000000 100 8 [cfA [.const .lss 0 false, .const .gtr 255 true] [] 0, cfA [] [] 2, .sc (.bool false)] = true := by decide +kernel
theorem cf_e3f : truth Try.prog exK evF 1000000 100 8 [cfA cfR [] 0, cfA [.const .lss 0 true] [] 2, .sc (.bool false)] = true := by decide +kernel
theorem cf_e4f : truth Try.prog exK evF 1000000 100 8 [cfA cfR [] 0, cfA [.const .lss 0 false, .const .gtr 255 true] [] 2, .sc (.bool false)] = true := by decide +kernel
theorem cf_mlef : truth Try.prog exK evF 1000000 100 8 [cfA (cfL 2 true false) (cfC 3 4 true true) 0, cfA (cfL 0 false false) (cfC 1 5 true true) 2, .sc (.bool false)] = true := by decide +kernel
theorem cf_mlsf : truth Try.prog exK evF 1000000 100 8 [cfA (cfL 2 true false) (cfC 3 4 true false) 0, cfA (cfL 0 false false) (cfC 1 5 false false) 2, .sc (.bool false)] = true := by decide +kernel
theorem cf_mlpf : truth Try.prog exK evF 1000000 100 8 [cfA (cfL 2 true false) (cfC 3 4 false false) 0, cfA (cfL 0 false false) (cfC 1 5 true false) 2, .sc (.bool false)] = true := by decide +kernel
theorem cf_mlif : truth Try.prog exK evF 1000000 100 8 [cfA (cfL 2 true false) (cfC 3 4 false false) 0, cfA (cfL 0 false false) (cfC 1 5 false false) 2, .sc (.bool false)] = true := by decide +kernel
theorem cf_meef : truth Try.prog exK evF 1000000 100 8 [cfA (cfL 2 true true) (cfC 3 4 true true) 0, cfA (cfL 0 true true) (cfC 1 5 true true) 2, .sc (.bool false)] = true := by decide +kernel
theorem cf_mesf : truth Try.prog exK evF 1000000 100 8 [cfA (cfL 2 true true) (cfC 3 4 true false) 0, cfA (cfL 0 true true) (cfC 1 5 false false) 2, .sc (.bool false)] = true := by decide +kernel
theorem cf_mepf : truth Try.prog exK evF 1000000 100 8 [cfA (cfL 2 true true) (cfC 3 4 false false) 0, cfA (cfL 0 true true) (cfC 1 5 true false) 2, .sc (.bool false)] = true := by decide +kernel
theorem cf_meif : truth Try.prog exK evF 1000000 100 8 [cfA (cfL 2 true true) (cfC 3 4 false false) 0, cfA (cfL 0 true true) (cfC 1 5 false false) 2, .sc (.bool false)] = true := by decide +kernel
theorem cf_mgef : truth Try.prog exK evF 1000000 100 8 [cfA (cfL 2 false false) (cfC 3 4 true true) 0, cfA (cfL 0 true false) (cfC 1 5 true true) 2, .sc (.bool false)] = true := by decide +kernel
theorem cf_mgsf : truth Try.prog exK evF 1000000 100 8 [cfA (cfL 2 false false) (cfC 3 4 true false) 0, cfA (cfL 0 true false) (cfC 1 5 false false) 2, .sc (.bool false)] = true := by decide +kernel
theorem cf_mgpf : truth Try.prog exK evF 1000000 100 8 [cfA (cfL 2 false false) (cfC 3 4 false false) 0, cfA (cfL 0 true false) (cfC 1 5 true false) 2, .sc (.bool false)] = true := by decide +kernel
theorem cf_mgif : truth Try.prog exK evF 1000000 100 8 [cfA (cfL 2 false false) (cfC 3 4 false false) 0, cfA (cfL 0 true false) (cfC 1 5 false false) 2, .sc (.bool false)] = true := by decide +kernel
theorem cf_e1t : truth Try.prog exK evF 1000000 100 8 [cfA [.const .lss 0 true] [] 0, cfA [] [] 2, .sc (.bool true)] = true := by decide +kernel
theorem cf_e2t : truth Try.prog exK evF 1000000 100 8 [cfA [.const .lss 0 false, .const .gtr 255 true] [] 0, cfA [] [] 2, .sc (.bool true)] = true := by decide +kernel
theorem cf_e3t : truth Try.prog exK evF 1000000 100 8 [cfA cfR [] 0, cfA [.const .lss 0 true] [] 2, .sc (.bool true)] = true := by decide +kernel
theorem cf_e4t : truth Try.prog exK evF 1000000 100 8 [cfA cfR [] 0, cfA [.const .lss 0 false, .const .gtr 255 true] [] 2, .sc (.bool true)] = true := by decide +kernel
theorem cf_mlet : truth Try.prog exK evF 1000000 100 8 [cfA (cfL 2 true false) (cfC 3 4 true true) 0, cfA (cfL 0 false false) (cfC 1 5 true true) 2, .sc (.bool true)] = true := by decide +kernel
theorem cf_mlst : truth Try.prog exK evF 1000000 100 8 [cfA (cfL 2 true false) (cfC 3 4 true false) 0, cfA (cfL 0 false false) (cfC 1 5 false false) 2, .sc (.bool true)] = true := by decide +kernel
theorem cf_mlpt : truth Try.prog exK evF 1000000 100 8 [cfA (cfL 2 true false) (cfC 3 4 false false) 0, cfA (cfL 0 false false) (cfC 1 5 true false) 2, .sc (.bool true)] = true := by decide +kernel
theorem cf_mlit : truth Try.prog exK evF 1000000 100 8 [cfA (cfL 2 true false) (cfC 3 4 false false) 0, cfA (cfL 0 false false) (cfC 1 5 false false) 2, .sc (.bool true)] = true := by decide +kernel
theorem cf_meet : truth Try.prog exK evF 1000000 100 8 [cfA (cfL 2 true true) (cfC 3 4 true true) 0, cfA (cfL 0 true true) (cfC 1 5 true true) 2, .sc (.bool true)] = true := by decide +kernel
theorem cf_mest : truth Try.prog exK evF 1000000 100 8 [cfA (cfL 2 true true) (cfC 3 4 true false) 0, cfA (cfL 0 true true) (cfC 1 5 false false) 2, .sc (.bool true)] = true := by decide +kernel
theorem cf_mept : truth Try.prog exK evF 1000000 100 8 [cfA (cfL 2 true true) (cfC 3 4 false false) 0, cfA (cfL 0 true true) (cfC 1 5 true false) 2, .sc (.bool true)] = true := by decide +kernel
theorem cf_meit : truth Try.prog exK evF 1000000 100 8 [cfA (cfL 2 true true) (cfC 3 4 false false) 0, cfA (cfL 0 true true) (cfC 1 5 false false) 2, .sc (.bool true)] = true := by decide +kernel
theorem cf_mget : truth Try.prog exK evF 1000000 100 8 [cfA (cfL 2 false false) (cfC 3 4 true true) 0, cfA (cfL 0 true false) (cfC 1 5 true true) 2, .sc (.bool true)] = true := by decide +kernel
theorem cf_mgst : truth Try.prog exK evF 1000000 100 8 [cfA (cfL 2 false false) (cfC 3 4 true false) 0, cfA (cfL 0 true false) (cfC 1 5 false false) 2, .sc (.bool true)] = true := by decide +kernel
theorem cf_mgpt : truth Try.prog exK evF 1000000 100 8 [cfA (cfL 2 false false) (cfC 3 4 false false) 0, cfA (cfL 0 true false) (cfC 1 5 true false) 2, .sc (.bool true)] = true := by decide +kernel
theorem cf_mgit : truth Try.prog exK evF 1000000 100 8 [cfA (cfL 2 false false) (cfC 3 4 false false) 0, cfA (cfL 0 true false) (cfC 1 5 false false) 2, .sc (.bool true)] = true := by decide +kernel
/-- The numbers that have names. -/
def cfN (a b c d : Int) : Nat → Int
  | 0 => a
  | 1 => b
  | 2 => c
  | 3 => d
  | 4 => (BitVec.ofInt 64 b &&& ~~~BitVec.ofInt 64 d).toNat
  | 5 => (BitVec.ofInt 64 d &&& ~~~BitVec.ofInt 64 b).toNat
  | _ => 0
theorem cf_lss {x c : Int} {t : Bool} (h : decide (x < c) = t) (k : IntKind) (i : Nat) (num : Nat → Int) (e : num i = x) : Fact.holds k i num (.const .lss c t) := by
  subst e; exact congrArg some h
theorem cf_range {x : Int} (h0 : ¬ x < 0) (h1 : ¬ x > 255) (i : Nat) (num : Nat → Int) (e : num i = x) : ∀ f ∈ cfR, f.holds .i64 i num := by
  subst e
  intro f hf
  simp only [cfR, List.mem_cons, List.not_mem_nil, or_false] at hf
  rcases hf with rfl | rfl | rfl | rfl
  · exact congrArg some (decide_eq_false h0)
  · exact congrArg some (decide_eq_false h1)
  · exact congrArg some (decide_eq_true (by omega))
  · exact congrArg some (decide_eq_true (by omega))
theorem cf_lev {x y : Int} (h0 : ¬ x < 0) (h1 : ¬ x > 255) (i j : Nat) (num : Nat → Int) (e : num i = x) (e' : num j = y) {le eq : Bool} (hl : decide (x ≤ y) = le) (he : (x == y) = eq) : ∀ f ∈ cfL j le eq, f.holds .i64 i num := by
  intro f hf
  simp only [cfL, List.mem_cons] at hf
  rcases hf with rfl | rfl | hf
  · subst e e'; exact congrArg some hl
  · subst e e'; exact congrArg some he
  · exact cf_range h0 h1 i num e f (by simpa [cfR] using hf)
theorem cf_set {x y : Int} (hx : 0 ≤ x ∧ x < 18446744073709551616) (hy : 0 ≤ y ∧ y < 18446744073709551616) (i j l : Nat) (num : Nat → Int) (e : num i = x) (e' : num j = y) (el : num l = (BitVec.ofInt 64 x &&& ~~~BitVec.ofInt 64 y).toNat)
    {z eq : Bool} (hz : (((BitVec.ofInt 64 x &&& ~~~BitVec.ofInt 64 y).toNat : Int) == 0) = z) (he : (x == y) = eq) : ∀ f ∈ cfC j l z eq, f.holds .u64 i num := by
  intro f hf
  simp only [cfC, List.mem_cons, List.not_mem_nil, or_false] at hf
  rcases hf with rfl | rfl
  · subst e e'; exact ⟨rfl, hx, hy, el, by rw [el]; exact hz⟩
  · subst e e'; exact congrArg some he
theorem cf_and (x y : BitVec 64) : ((x &&& ~~~y) = 0#64 ∧ (y &&& ~~~x) = 0#64) → x = y := by
  rintro ⟨h1, h2⟩
  ext i hi
  have a1 := congrArg (fun v => v[i]) h1
  have a2 := congrArg (fun v => v[i]) h2
  simp only [BitVec.getElem_and, BitVec.getElem_not, BitVec.getElem_zero] at a1 a2
  cases h3 : x[i] <;> cases h4 : y[i] <;> simp_all
theorem cf_zero (x : BitVec 64) : (((x.toNat : Nat) : Int) == 0) = (x == 0#64) := by
  rw [Bool.eq_iff_iff, beq_iff_eq, beq_iff_eq]
  constructor
  · intro h
    apply BitVec.eq_of_toNat_eq
    simp; omega
  · rintro rfl; rfl
theorem cf_same {x y : Int} (hx : 0 ≤ x ∧ x < 18446744073709551616) (hy : 0 ≤ y ∧ y < 18446744073709551616) : (x == y) = (BitVec.ofInt 64 x == BitVec.ofInt 64 y) := by
  rw [Bool.eq_iff_iff, beq_iff_eq, beq_iff_eq]
  constructor
  · rintro rfl; rfl
  · intro h
    have := congrArg BitVec.toNat h
    simp only [BitVec.toNat_ofInt] at this
    omega
def CFOk (u v : Val) (r : Bool) : Prop := truth Try.prog exK evF 1000000 100 8 [u, v, .sc (.bool r)] = true
theorem cf_e1 (r : Bool) : CFOk (cfA [.const .lss 0 true] [] 0) (cfA [] [] 2) r := by
  cases r
  · exact cf_e1f
  · exact cf_e1t
theorem cf_e2 (r : Bool) : CFOk (cfA [.const .lss 0 false, .const .gtr 255 true] [] 0) (cfA [] [] 2) r := by
  cases r
  · exact cf_e2f
  · exact cf_e2t
theorem cf_e3 (r : Bool) : CFOk (cfA cfR [] 0) (cfA [.const .lss 0 true] [] 2) r := by
  cases r
  · exact cf_e3f
  · exact cf_e3t
theorem cf_e4 (r : Bool) : CFOk (cfA cfR [] 0) (cfA [.const .lss 0 false, .const .gtr 255 true] [] 2) r := by
  cases r
  · exact cf_e4f
  · exact cf_e4t
theorem cf_mle (r : Bool) : CFOk (cfA (cfL 2 true false) (cfC 3 4 true true) 0) (cfA (cfL 0 false false) (cfC 1 5 true true) 2) r := by
  cases r
  · exact cf_mlef
  · exact cf_mlet
theorem cf_mls (r : Bool) : CFOk (cfA (cfL 2 true false) (cfC 3 4 true false) 0) (cfA (cfL 0 false false) (cfC 1 5 false false) 2) r := by
  cases r
  · exact cf_mlsf
  · exact cf_mlst
theorem cf_mlp (r : Bool) : CFOk (cfA (cfL 2 true false) (cfC 3 4 false false) 0) (cfA (cfL 0 false false) (cfC 1 5 true false) 2) r := by
  cases r
  · exact cf_mlpf
  · exact cf_mlpt
theorem cf_mli (r : Bool) : CFOk (cfA (cfL 2 true false) (cfC 3 4 false false) 0) (cfA (cfL 0 false false) (cfC 1 5 false false) 2) r := by
  cases r
  · exact cf_mlif
  · exact cf_mlit
theorem cf_mee (r : Bool) : CFOk (cfA (cfL 2 true true) (cfC 3 4 true true) 0) (cfA (cfL 0 true true) (cfC 1 5 true true) 2) r := by
  cases r
  · exact cf_meef
  · exact cf_meet
theorem cf_mes (r : Bool) : CFOk (cfA (cfL 2 true true) (cfC 3 4 true false) 0) (cfA (cfL 0 true true) (cfC 1 5 false false) 2) r := by
  cases r
  · exact cf_mesf
  · exact cf_mest
theorem cf_mep (r : Bool) : CFOk (cfA (cfL 2 true true) (cfC 3 4 false false) 0) (cfA (cfL 0 true true) (cfC 1 5 true false) 2) r := by
  cases r
  · exact cf_mepf
  · exact cf_mept
theorem cf_mei (r : Bool) : CFOk (cfA (cfL 2 true true) (cfC 3 4 false false) 0) (cfA (cfL 0 true true) (cfC 1 5 false false) 2) r := by
  cases r
  · exact cf_meif
  · exact cf_meit
theorem cf_mge (r : Bool) : CFOk (cfA (cfL 2 false false) (cfC 3 4 true true) 0) (cfA (cfL 0 true false) (cfC 1 5 true true) 2) r := by
  cases r
  · exact cf_mgef
  · exact cf_mget
theorem cf_mgs (r : Bool) : CFOk (cfA (cfL 2 false false) (cfC 3 4 true false) 0) (cfA (cfL 0 true false) (cfC 1 5 false false) 2) r := by
  cases r
  · exact cf_mgsf
  · exact cf_mgst
theorem cf_mgp (r : Bool) : CFOk (cfA (cfL 2 false false) (cfC 3 4 false false) 0) (cfA (cfL 0 true false) (cfC 1 5 true false) 2) r := by
  cases r
  · exact cf_mgpf
  · exact cf_mgpt
theorem cf_mgi (r : Bool) : CFOk (cfA (cfL 2 false false) (cfC 3 4 false false) 0) (cfA (cfL 0 true false) (cfC 1 5 false false) 2) r := by
  cases r
  · exact cf_mgif
  · exact cf_mgit
theorem cf_all (a b c d : Int) (hb : 0 ≤ b ∧ b < 18446744073709551616) (hd : 0 ≤ d ∧ d < 18446744073709551616) (r : Bool) :
    ∃ fa fb fc fd, CFOk (.agg [.sy .i64 0 fa, .sy .u64 1 fb]) (.agg [.sy .i64 2 fc, .sy .u64 3 fd]) r ∧ (∀ f ∈ fa, f.holds .i64 0 (cfN a b c d)) ∧ (∀ f ∈ fb, f.holds .u64 1 (cfN a b c d)) ∧ (∀ f ∈ fc, f.holds .i64 2 (cfN a b c d)) ∧ (∀ f ∈ fd, f.holds .u64 3 (cfN a b c d)) := by
  have none : ∀ (k : IntKind) (i : Nat), ∀ f ∈ ([] : List Fact), f.holds k i (cfN a b c d) := fun _ _ f h => by cases h
  by_cases a0 : a < 0
  · refine ⟨_, _, _, _, cf_e1 r, fun f hf => ?_, none _ _, none _ _, none _ _⟩
    obtain rfl := List.mem_singleton.1 hf
    exact congrArg some (decide_eq_true a0)
  by_cases a1 : a > 255
  · refine ⟨_, _, _, _, cf_e2 r, fun f hf => ?_, none _ _, none _ _, none _ _⟩
    simp only [List.mem_cons, List.not_mem_nil, or_false] at hf
    rcases hf with rfl | rfl
    · exact congrArg some (decide_eq_false a0)
    · exact congrArg some (decide_eq_true a1)
  by_cases c0 : c < 0
  · refine ⟨_, _, _, _, cf_e3 r, cf_range a0 a1 0 _ rfl, none _ _, fun f hf => ?_, none _ _⟩
    obtain rfl := List.mem_singleton.1 hf
    exact congrArg some (decide_eq_true c0)
  by_cases c1 : c > 255
  · refine ⟨_, _, _, _, cf_e4 r, cf_range a0 a1 0 _ rfl, none _ _, fun f hf => ?_, none _ _⟩
    simp only [List.mem_cons, List.not_mem_nil, or_false] at hf
    rcases hf with rfl | rfl
    · exact congrArg some (decide_eq_false c0)
    · exact congrArg some (decide_eq_true c1)
  generalize hz : (((BitVec.ofInt 64 b &&& ~~~BitVec.ofInt 64 d).toNat : Int) == 0) = z
  generalize hz' : (((BitVec.ofInt 64 d &&& ~~~BitVec.ofInt 64 b).toNat : Int) == 0) = z'
  generalize he : (b == d) = eq
  have he' : (d == b) = eq := by rw [← he]; exact Bool.beq_comm
  have key : eq = (z && z') := by
    rw [← he, ← hz, ← hz', cf_same hb hd, cf_zero, cf_zero]
    rw [Bool.eq_iff_iff, Bool.and_eq_true, beq_iff_eq, beq_iff_eq, beq_iff_eq]
    constructor
    · intro h; rw [h]; simp
    · exact cf_and _ _
  have SB := cf_set hb hd 1 3 4 (cfN a b c d) rfl rfl rfl hz he
  have SD := cf_set hd hb 3 1 5 (cfN a b c d) rfl rfl rfl hz' he'
  have LA := fun le q hl hq => @cf_lev a c a0 a1 0 2 (cfN a b c d) rfl rfl le q hl hq
  have LC := fun le q hl hq => @cf_lev c a c0 c1 2 0 (cfN a b c d) rfl rfl le q hl hq
  have lev : (a < c) ∨ (a = c) ∨ (c < a) := by omega
  rcases lev with h | h | h
  · have LA := LA true false (decide_eq_true (by omega)) (beq_eq_false_iff_ne.2 (by omega))
    have LC := LC false false (decide_eq_false (by omega)) (beq_eq_false_iff_ne.2 (by omega))
    cases z <;> cases z' <;> simp only [Bool.and_true, Bool.and_false, Bool.and_self] at key <;> subst key
    · exact ⟨_, _, _, _, cf_mli r, LA, SB, LC, SD⟩
    · exact ⟨_, _, _, _, cf_mlp r, LA, SB, LC, SD⟩
    · exact ⟨_, _, _, _, cf_mls r, LA, SB, LC, SD⟩
    · exact ⟨_, _, _, _, cf_mle r, LA, SB, LC, SD⟩
  · have LA := LA true true (decide_eq_true (by omega)) (beq_iff_eq.2 h)
    have LC := LC true true (decide_eq_true (by omega)) (beq_iff_eq.2 h.symm)
    cases z <;> cases z' <;> simp only [Bool.and_true, Bool.and_false, Bool.and_self] at key <;> subst key
    · exact ⟨_, _, _, _, cf_mei r, LA, SB, LC, SD⟩
    · exact ⟨_, _, _, _, cf_mep r, LA, SB, LC, SD⟩
    · exact ⟨_, _, _, _, cf_mes r, LA, SB, LC, SD⟩
    · exact ⟨_, _, _, _, cf_mee r, LA, SB, LC, SD⟩
  · have LA := LA false false (decide_eq_false (by omega)) (beq_eq_false_iff_ne.2 (by omega))
    have LC := LC true false (decide_eq_true (by omega)) (beq_eq_false_iff_ne.2 (by omega))
    cases z <;> cases z' <;> simp only [Bool.and_true, Bool.and_false, Bool.and_self] at key <;> subst key
    · exact ⟨_, _, _, _, cf_mgi r, LA, SB, LC, SD⟩
    · exact ⟨_, _, _, _, cf_mgp r, LA, SB, LC, SD⟩
    · exact ⟨_, _, _, _, cf_mgs r, LA, SB, LC, SD⟩
    · exact ⟨_, _, _, _, cf_mge r, LA, SB, LC, SD⟩
def ext_8.f (_x0 x1 _x2 x3 : Int) (_x4 : Bool) : Option Bool := if (0 ≤ x1 ∧ x1 < 18446744073709551616) ∧ (0 ≤ x3 ∧ x3 < 18446744073709551616) then some true else none
theorem ext_8.calls (x0 x1 x2 x3 : Int) (x4 : Bool) (r : Bool) (_hrt : r = true) (w : World) (h : ext_8.f x0 x1 x2 x3 x4 = some r) :
    Calls Try.prog 8 #[.agg #[.int .i64 x0, .int .u64 x1], .agg #[.int .i64 x2, .int .u64 x3], .bool x4] w fun e w' => e = .returned (.bool r) ∧ Below w.heap.size w w' := by
  unfold ext_8.f at h
  split at h
  · rename_i hx
    obtain rfl := Option.some.inj h
    obtain ⟨fa, fb, fc, fd, hok, h0, h1, h2, h3⟩ := cf_all x0 x1 x2 x3 hx.1 hx.2 x4
    exact truth_calls_num (P := Try.prog) (num := cfN x0 x1 x2 x3) evF_ok exK_ok evMixed (truth_of hok) (xs := [.agg #[.int .i64 x0, .int .u64 x1], .agg #[.int .i64 x2, .int .u64 x3], .bool x4])
      (.cons (VR.agg (.cons (.sy h0) (.cons (.sy h1) .nil)) : VR _ _ _ (.agg [Value.int .i64 x0, Value.int .u64 x1].toArray)) (.cons (VR.agg (.cons (.sy h2) (.cons (.sy h3) .nil)) : VR _ _ _ (.agg [Value.int .i64 x2, Value.int .u64 x3].toArray)) (.cons .sc .nil)))
  · exact absurd h (by simp)
end Go.Proofs.Ytjgdcifbhmjinaa.P
