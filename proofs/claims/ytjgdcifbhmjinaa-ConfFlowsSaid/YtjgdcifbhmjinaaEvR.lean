/- What the evaluator's values and memory stand for: values and blocks of the model. -/
import Derived.Test.YtjgdcifbhmjinaaEv
import Derived.Laws.World
namespace Go.Proofs.Ytjgdcifbhmjinaa.Ev
open Go

inductive Own where
  | live (b o n : Nat)
  | dead
abbrev Rho := Nat → Option Own
/-- What stays as it is: blocks, the world's other parts; so many blocks are there at least. -/
structure Im where
  blk : Nat → Option Obj
  os : Os
  tape : Nat → Question → Nat
  output : Array (Nat × ByteArray)
  size : Nat
  num : Nat → Int
instance : CoeFun Im (fun _ => Nat → Option Obj) := ⟨Im.blk⟩

/-- How two numbers compare. -/
def cmpI (op : BinOp) (a b : Int) : Option Bool := match op with
  | .eql => some (a == b)
  | .neq => some (a != b)
  | .lss => some (decide (a < b))
  | .leq => some (decide (a ≤ b))
  | .gtr => some (decide (b < a))
  | .geq => some (decide (b ≤ a))
  | _ => none
def Fact.holds (k : IntKind) (i : Nat) (num : Nat → Int) : Fact → Prop
  | .with_ op j b => cmpI op (num i) (num j) = some b
  | .const op c b => cmpI op (num i) c = some b
  | .made j l z => k = .u64 ∧ (0 ≤ num i ∧ num i < 18446744073709551616) ∧ (0 ≤ num j ∧ num j < 18446744073709551616) ∧ num l = (BitVec.ofInt 64 (num i) &&& ~~~BitVec.ofInt 64 (num j)).toNat ∧ (num l == 0) = z

mutual
inductive VR (ρ : Rho) (I : Im) : Val → Value → Prop
  | sc {v : Value} : VR ρ I (.sc v) v
  | agg {cs : List Val} {l : List Value} : VRs ρ I cs l → VR ρ I (.agg cs) (.agg l.toArray)
  | tup {cs : List Val} {l : List Value} : VRs ρ I cs l → VR ρ I (.tup cs) (.tuple l.toArray)
  | ref {id off : Nat} {ow : Own} {a : Addr} : ρ id = some ow → (∀ b o n, ow = .live b o n → a = ⟨b, o + off, none⟩) → VR ρ I (.ref id off) (.pointer (some a))
  | row {id off len sz c : Nat} {cap : Option Nat} {ow : Own} {a : Addr} : ρ id = some ow → len ≤ c → (cap = none ∨ cap = some c) →
      (∀ b o n, ow = .live b o n → o + off + c * sz ≤ n ∧ (c = 0 ∨ a = ⟨b, o + off, none⟩)) → VR ρ I (.row id off len sz cap) (.slice (some a) len c)
  | emp {a : Addr} : VR ρ I .emp (.slice (some a) 0 0)
  | froNil {a : Addr} {c : Nat} : VR ρ I (.fro []) (.slice (some a) 0 c)
  | fro {es : List (List Val)} {b off c sz len : Nat} {cells : Array Value} {elem : TypeId} {fr : Nat × Nat} : I b = some (.cells cells elem fr) → ESR ρ I sz es (cells.toList.drop off) →
      es.length = len → len ≤ c → VR ρ I (.fro es) (.slice (some ⟨b, off, none⟩) len c)
  | fpt {cs : List Val} {b off : Nat} {cells : Array Value} {elem : TypeId} {fr : Nat × Nat} : I b = some (.cells cells elem fr) → VRs ρ I cs ((cells.toList.drop off).take cs.length) →
      VR ρ I (.fpt cs) (.pointer (some ⟨b, off, none⟩))
  | fn {f : Fn} {x y : List Val} {x' y' : List Value} : VRs ρ I x x' → VRs ρ I y y' → VR ρ I (.fn f x y) (.func f x'.toArray y'.toArray)
  | ifc {t : TypeId} {v : Val} {x : Value} : VR ρ I v x → VR ρ I (.ifc t v) (.iface t x)
  | ab {k : IntKind} {lo hi x : Int} {m r : Nat} : lo ≤ x → x ≤ hi → x % (m : Int) = r → VR ρ I (.ab k lo hi m r) (.int k x)
  | sy {k : IntKind} {i : Nat} {fs : List Fact} : (∀ f ∈ fs, f.holds k i I.num) → VR ρ I (.sy k i fs) (.int k (I.num i))
inductive VRs (ρ : Rho) (I : Im) : List Val → List Value → Prop
  | nil : VRs ρ I [] []
  | cons {v : Val} {x : Value} {vs : List Val} {xs : List Value} : VR ρ I v x → VRs ρ I vs xs → VRs ρ I (v :: vs) (x :: xs)
inductive ESR (ρ : Rho) (I : Im) : Nat → List (List Val) → List Value → Prop
  | enil {sz : Nat} {l : List Value} : ESR ρ I sz [] l
  | econs {sz : Nat} {e : List Val} {es : List (List Val)} {l : List Value} : e.length = sz → VRs ρ I e (l.take sz) → ESR ρ I sz es (l.drop sz) → ESR ρ I sz (e :: es) l
end

/-- What is known later: what lived may be gone. -/
def Le (ρ ρ' : Rho) : Prop := ∀ id ow, ρ id = some ow → ρ' id = some ow ∨ ρ' id = some .dead
structure Sub (I I' : Im) : Prop where
  blk : ∀ b x, I b = some x → I' b = some x
  os : I'.os = I.os
  tape : I'.tape = I.tape
  output : I'.output = I.output
  size : I'.size = I.size
  num : I'.num = I.num
/-- The world's other parts. -/
structure Env (I : Im) (w : World) : Prop where
  os : w.os = I.os
  tape : w.tape = I.tape
  output : w.output = I.output
  size : I.size ≤ w.heap.size
theorem Le.refl (ρ : Rho) : Le ρ ρ := fun _ _ h => .inl h
theorem Le.trans {ρ ρ' ρ'' : Rho} (h : Le ρ ρ') (h' : Le ρ' ρ'') : Le ρ ρ'' := fun id ow e => by
  rcases h id ow e with e' | e'
  · exact h' _ _ e'
  · rcases h' _ _ e' with e'' | e'' <;> exact .inr e''
theorem Sub.refl (I : Im) : Sub I I := ⟨fun _ _ h => h, rfl, rfl, rfl, rfl, rfl⟩
theorem Sub.trans {I I' I'' : Im} (h : Sub I I') (h' : Sub I' I'') : Sub I I'' := ⟨fun _ _ e => h'.blk _ _ (h.blk _ _ e), h'.os.trans h.os, h'.tape.trans h.tape, h'.output.trans h.output, h'.size.trans h.size, h'.num.trans h.num⟩

section
variable {ρ ρ' : Rho} {I I' : Im}

theorem VR.mono (hl : Le ρ ρ') (hs : Sub I I') {v : Val} {x : Value} (h : VR ρ I v x) : VR ρ' I' v x := by
  induction h using VR.rec (motive_2 := fun v x _ => VRs ρ' I' v x) (motive_3 := fun n e l _ => ESR ρ' I' n e l) with
  | sc => exact .sc
  | agg _ ih => exact .agg ih
  | tup _ ih => exact .tup ih
  | ref h1 h2 =>
    rcases hl _ _ h1 with e | e
    · exact .ref e h2
    · exact .ref e (fun _ _ _ h => by cases h)
  | row h1 h2 h3 h4 =>
    rcases hl _ _ h1 with e | e
    · exact .row e h2 h3 h4
    · exact .row e h2 h3 (fun _ _ _ h => by cases h)
  | emp => exact .emp
  | froNil => exact .froNil
  | fro h1 _ h3 h4 ih => exact .fro (hs.blk _ _ h1) ih h3 h4
  | fpt h1 _ ih => exact .fpt (hs.blk _ _ h1) ih
  | fn _ _ ih1 ih2 => exact .fn ih1 ih2
  | ifc _ ih => exact .ifc ih
  | sy h =>
    rw [← hs.num]
    exact .sy (by rw [hs.num]; exact h)
  | ab h1 h2 h3 => exact .ab h1 h2 h3
  | nil => exact .nil
  | cons _ _ ih1 ih2 => exact .cons ih1 ih2
  | enil => exact .enil
  | econs h1 _ _ ih1 ih2 => exact .econs h1 ih1 ih2

theorem VRs.mono (hl : Le ρ ρ') (hs : Sub I I') {v : List Val} {x : List Value} (h : VRs ρ I v x) : VRs ρ' I' v x := by
  induction v generalizing x with
  | nil => cases h; exact .nil
  | cons v vs ih => cases h with | cons h1 h2 => exact .cons (h1.mono hl hs) (ih h2)

theorem VRs.length {v : List Val} {x : List Value} (h : VRs ρ I v x) : v.length = x.length := by
  induction v generalizing x with
  | nil => cases h; rfl
  | cons v vs ih => cases h with | cons _ h2 => simp [ih h2]

theorem VRs.append {v v' : List Val} {x x' : List Value} (h : VRs ρ I v x) (h' : VRs ρ I v' x') : VRs ρ I (v ++ v') (x ++ x') := by
  induction v generalizing x with
  | nil => cases h; exact h'
  | cons v vs ih => cases h with | cons h1 h2 => exact .cons h1 (ih h2)

theorem VRs.take {v : List Val} {x : List Value} (h : VRs ρ I v x) (n : Nat) : VRs ρ I (v.take n) (x.take n) := by
  induction v generalizing x n with
  | nil => cases h; simpa using VRs.nil
  | cons v vs ih =>
    cases h with
    | cons h1 h2 =>
      cases n with
      | zero => exact .nil
      | succ n => exact .cons h1 (ih h2 n)

theorem VRs.drop {v : List Val} {x : List Value} (h : VRs ρ I v x) (n : Nat) : VRs ρ I (v.drop n) (x.drop n) := by
  induction v generalizing x n with
  | nil => cases h; simpa using VRs.nil
  | cons v vs ih =>
    cases h with
    | cons h1 h2 =>
      cases n with
      | zero => exact .cons h1 h2
      | succ n => exact ih h2 n

theorem VRs.get {v : List Val} {x : List Value} (h : VRs ρ I v x) {n : Nat} {u : Val} (hu : v[n]? = some u) : ∃ y, x[n]? = some y ∧ VR ρ I u y := by
  induction v generalizing x n with
  | nil => simp at hu
  | cons v vs ih =>
    cases h with
    | cons h1 h2 =>
      cases n with
      | zero => simp at hu; subst hu; exact ⟨_, rfl, h1⟩
      | succ n => simpa using ih h2 (by simpa using hu)

theorem VRs.get' {v : List Val} {x : List Value} (h : VRs ρ I v x) {n : Nat} {y : Value} (hu : x[n]? = some y) : ∃ u, v[n]? = some u ∧ VR ρ I u y := by
  induction v generalizing x n with
  | nil => cases h; simp at hu
  | cons v vs ih =>
    cases h with
    | cons h1 h2 =>
      cases n with
      | zero => simp at hu; subst hu; exact ⟨_, rfl, h1⟩
      | succ n => simpa using ih h2 (by simpa using hu)

theorem VRs.of_get {v : List Val} {x : List Value} (hl : v.length = x.length) (h : ∀ (n : Nat) (u : Val) (y : Value), v[n]? = some u → x[n]? = some y → VR ρ I u y) : VRs ρ I v x := by
  induction v generalizing x with
  | nil => cases x with
    | nil => exact .nil
    | cons _ _ => simp at hl
  | cons v vs ih => cases x with
    | nil => simp at hl
    | cons y ys => exact .cons (h 0 v y rfl rfl) (ih (by simpa using hl) (fun n u z h1 h2 => h (n + 1) u z (by simpa using h1) (by simpa using h2)))

theorem VRs.map_sc (l : List Value) : VRs ρ I (l.map .sc) l := by
  induction l with
  | nil => exact .nil
  | cons x l ih => exact .cons .sc ih

theorem VRs.map {α : Type} (f : α → Val) (g : α → Value) (h : ∀ a, VR ρ I (f a) (g a)) (l : List α) : VRs ρ I (l.map f) (l.map g) := by
  induction l with
  | nil => exact .nil
  | cons x l ih => exact .cons (h x) ih

theorem VR.ofV0 (v : Value) : VR ρ I (ofV0 v) v := by
  unfold Ev.ofV0
  split
  · rename_i cs
    exact (VR.agg (VRs.map_sc cs.toList) : VR ρ I _ (.agg cs.toList.toArray))
  · exact .sc

theorem VR.ofV (v : Value) : VR ρ I (ofV v) v := by
  unfold Ev.ofV
  split
  · rename_i cs
    exact (VR.agg (VRs.map_sc cs.toList) : VR ρ I _ (.agg cs.toList.toArray))
  · rename_i cs
    have := VRs.map (ρ := ρ) (I := I) Ev.ofV0 id VR.ofV0 cs.toList
    rw [List.map_id] at this
    exact (VR.tup this : VR ρ I _ (.tuple cs.toList.toArray))
  · exact .ifc (VR.ofV0 _)
  · rename_i f a b
    exact (VR.fn (VRs.map_sc a.toList) (VRs.map_sc b.toList) : VR ρ I _ (.func f a.toList.toArray b.toList.toArray))
  · exact .sc

/-- What has no address stands for itself. -/
theorem VR.val {v : Val} {x : Value} (h : VR ρ I v x) : ∀ y, v.val? = some y → y = x := by
  induction h using VR.rec (motive_2 := fun v x _ => ∀ y, vals? v = some y → y = x) (motive_3 := fun _ _ _ _ => True) with
  | sc => intro y hy; simp [Val.val?] at hy; exact hy.symm
  | agg _ ih =>
    intro y hy
    simp only [Val.val?, Option.map_eq_some_iff] at hy
    obtain ⟨l, h1, rfl⟩ := hy
    rw [ih _ h1]
  | tup _ ih =>
    intro y hy
    simp only [Val.val?, Option.map_eq_some_iff] at hy
    obtain ⟨l, h1, rfl⟩ := hy
    rw [ih _ h1]
  | ref | row | emp | froNil | fro | fpt | ab | sy => intro y hy; simp [Val.val?] at hy
  | fn _ _ ih1 ih2 =>
    intro y hy
    simp only [Val.val?] at hy
    split at hy
    · rename_i h1 h2
      simp at hy
      rw [← hy, ih1 _ h1, ih2 _ h2]
    · simp at hy
  | ifc _ ih =>
    intro y hy
    simp only [Val.val?, Option.map_eq_some_iff] at hy
    obtain ⟨l, h1, rfl⟩ := hy
    rw [ih _ h1]
  | nil => rename_i hy; simpa [vals?] using hy.symm
  | cons _ _ ih1 ih2 =>
    rename_i hy
    simp only [vals?] at hy
    split at hy
    · rename_i h1 h2
      simp at hy
      rw [← hy, ih1 _ h1, ih2 _ h2]
    · simp at hy
  | enil | econs => trivial

theorem VR.single {v : Val} {x : Value} (h : VR ρ I v x) (hv : v.one = true) : single x = true := by
  cases h <;> first | rfl | exact hv | (simp [Val.one] at hv)

theorem ones_one {u : Val} (hu : ones [u] = true) : u.one = true := by
  simp only [ones] at hu
  split at hu
  · assumption
  · cases hu

theorem VR.cells {v : Val} {x : Value} (h : VR ρ I v x) (hv : ones v.cells = true) : VRs ρ I v.cells x.cells.toList := by
  have h' := h
  cases h with
  | agg h => exact h
  | tup _ => simp [Val.cells, ones, Val.one] at hv
  | sc =>
    have := ones_one hv
    simp only [Val.one] at this
    cases x <;> simp [Ev.single] at this <;> exact .cons .sc .nil
  | ref _ _ => exact .cons h' .nil
  | row _ _ _ _ => exact .cons h' .nil
  | emp => exact .cons h' .nil
  | froNil => exact .cons h' .nil
  | fro _ _ _ _ => exact .cons h' .nil
  | fpt _ _ => exact .cons h' .nil
  | fn _ _ => exact .cons h' .nil
  | ifc _ => exact .cons h' .nil
  | ab _ _ _ => exact .cons h' .nil
  | sy _ => exact .cons h' .nil

theorem VRs.singles {v : List Val} {x : List Value} (h : VRs ρ I v x) (hv : ones v = true) : ∀ y ∈ x, single y = true := by
  induction v generalizing x with
  | nil => cases h; simp
  | cons v vs ih =>
    cases h with
    | cons h1 h2 =>
      simp only [ones] at hv
      split at hv
      · rename_i hv1
        intro y hy
        cases hy with
        | head => exact h1.single hv1
        | tail _ hy => exact ih h2 hv y hy
      · cases hv

theorem ones_append {a b : List Val} (ha : ones a = true) (hb : ones b = true) : ones (a ++ b) = true := by
  induction a with
  | nil => exact hb
  | cons v vs ih =>
    simp only [ones] at ha
    split at ha
    · rename_i h
      simp only [List.cons_append, ones, h]
      exact ih ha
    · cases ha

/-- The cells of a row are each one cell's value; what is read out of a block stands for what lies there. -/
structure SR (ρ : Rho) (I : Im) (m : List (Nat × List Val)) (w : World) : Prop where
  live : ∀ id b o n, ρ id = some (.live b o n) → ∃ cs, look id m = some cs ∧ ∃ cells elem lo hi, w.heap[b]? = some (.cells cells elem (lo, hi)) ∧ cells.size = n ∧ (n ≤ lo ∨ hi ≤ lo) ∧
    o + cs.length ≤ n ∧ VRs ρ I cs ((cells.toList.drop o).take cs.length)
  mem : ∀ id cs, look id m = some cs → ∃ b o n, ρ id = some (.live b o n)
  inj : ∀ id id' b o n o' n', ρ id = some (.live b o n) → ρ id' = some (.live b o' n') → id = id'
  im : ∀ b x, I b = some x → w.heap[b]? = some x
  aside : ∀ id b o n, ρ id = some (.live b o n) → I b = none
  env : Env I w

theorem SR.drew {ρ : Rho} {I : Im} {m : List (Nat × List Val)} {w : World} (h : SR ρ I m w) : SR ρ I m w.drew :=
  ⟨fun id b o n e => h.live id b o n e, h.mem, h.inj, fun b x e => h.im b x e, h.aside, ⟨h.env.os, h.env.tape, h.env.output, h.env.size⟩⟩
end

section look
theorem beq_true {a b : Nat} : Nat.beq a b = true ↔ a = b := Nat.beq_eq ▸ Iff.rfl
theorem look_cons (id k : Nat) (c : List Val) (m : List (Nat × List Val)) : look id ((k, c) :: m) = if k = id then some c else look id m := by
  rw [look_c]
  split
  · rename_i h; rw [if_pos (Nat.eq_of_beq_eq_true h)]
  · rename_i h; rw [if_neg (Nat.ne_of_beq_eq_false h)]
theorem look_del (id k : Nat) : ∀ m : List (Nat × List Val), look id (del k m) = if k = id then none else look id m
  | [] => by simp [look_nil, del_nil]
  | (j, c) :: m => by
    rw [del_c]
    split
    · rename_i h
      have := Nat.eq_of_beq_eq_true h
      rw [look_del id k m, look_cons]
      subst this
      split <;> simp_all
    · rename_i h
      have := Nat.ne_of_beq_eq_false h
      rw [look_cons, look_cons, look_del id k m]
      split <;> split <;> simp_all
theorem look_upd (id k : Nat) (c : List Val) : ∀ m : List (Nat × List Val), look id (upd k c m) = if k = id then (look id m).map (fun _ => c) else look id m
  | [] => by simp [look_nil, upd_nil]
  | (j, d) :: m => by
    rw [upd_c]
    split
    · rename_i h
      have := Nat.eq_of_beq_eq_true h
      subst this
      rw [look_cons, look_cons]
      split <;> simp_all
    · rename_i h
      have := Nat.ne_of_beq_eq_false h
      rw [look_cons, look_cons, look_upd id k c m]
      split <;> split <;> simp_all
theorem look_shed (id lo hi : Nat) : ∀ m : List (Nat × List Val), look id (shed lo hi m) = if lo ≤ id ∧ id < hi then none else look id m
  | [] => by simp [look_nil, shed_nil]
  | (j, d) :: m => by
    rw [shed_c]
    cases h : Nat.ble lo j && Nat.ble (j + 1) hi with
    | true =>
      simp only [Bool.and_eq_true] at h
      have h1 := Nat.le_of_ble_eq_true h.1
      have h2 := Nat.le_of_ble_eq_true h.2
      simp only
      rw [look_shed id lo hi m, look_cons]
      split
      · rfl
      · rw [if_neg (by omega)]
    | false =>
      simp only
      rw [look_cons, look_cons, look_shed id lo hi m]
      split
      · rename_i e
        subst e
        rw [if_neg]
        rintro ⟨h1, h2⟩
        rw [Nat.ble_eq_true_of_le h1, Nat.ble_eq_true_of_le h2] at h
        cases h
      · rfl
end look
end Go.Proofs.Ytjgdcifbhmjinaa.Ev
