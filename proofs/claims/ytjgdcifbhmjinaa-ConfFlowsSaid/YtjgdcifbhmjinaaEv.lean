/- An evaluator of the program's code over a memory of one's own: blocks by name, no order left open, no capacity. -/
import Derived.Orders
import Derived.WalkKit
namespace Go.Proofs.Ytjgdcifbhmjinaa.Ev
open Go
noncomputable section

/-- What is known of a number that has a name: how it compares with another one, with a constant; which named number is left of it without another one's bits, and whether that is zero. -/
inductive Fact where
  | with_ (op : BinOp) (j : Nat) (b : Bool)
  | const (op : BinOp) (c : Int) (b : Bool)
  | made (j l : Nat) (z : Bool)

inductive Val where
  | sc (v : Value)
  | agg (cs : List Val)
  | tup (cs : List Val)
  | ref (id off : Nat)
  | row (id off len sz : Nat) (cap : Option Nat)
  | emp
  | fro (es : List (List Val))
  | fpt (cs : List Val)
  | fn (f : Fn) (first cap : List Val)
  | ifc (t : TypeId) (v : Val)
  | ab (k : IntKind) (lo hi : Int) (m r : Nat)   -- a number that isn't known: from lo to hi, r beyond a multiple of m
  | sy (k : IntKind) (i : Nat) (fs : List Fact)   -- the i-th number that has a name
  deriving Inhabited

def U : Val := .sc undef

/-- Slots: a tree over the bits. -/
inductive Tr where
  | leaf
  | node (v : Val) (l r : Tr)

/-- The recursors are spelled out: the kernel runs them some ten times as fast as what recursion by patterns becomes. -/
noncomputable def Tr.get (t : Tr) : Nat → Val :=
  Tr.rec (motive := fun _ => Nat → Val) (fun _ => U)
    (fun v _ _ l r n => Bool.rec (motive := fun _ => Val) (Bool.rec (motive := fun _ => Val) (r ((n - 1) / 2)) (l ((n - 1) / 2)) (Nat.beq (n % 2) 1)) v (Nat.beq n 0)) t
noncomputable def Tr.one (f : Nat) : Nat → Val → Tr :=
  Nat.rec (motive := fun _ => Nat → Val → Tr) (fun _ _ => .leaf)
    (fun _ ih n x => Bool.rec (motive := fun _ => Tr) (Bool.rec (motive := fun _ => Tr) (.node U .leaf (ih ((n - 1) / 2) x)) (.node U (ih ((n - 1) / 2) x) .leaf) (Nat.beq (n % 2) 1)) (.node x .leaf .leaf) (Nat.beq n 0)) f
noncomputable def Tr.put (t : Tr) : Nat → Val → Tr :=
  Tr.rec (motive := fun _ => Nat → Val → Tr) (fun n x => Tr.one 16 n x)
    (fun v l r pl pr n x => Bool.rec (motive := fun _ => Tr) (Bool.rec (motive := fun _ => Tr) (.node v l (pr ((n - 1) / 2) x)) (.node v (pl ((n - 1) / 2) x) r) (Nat.beq (n % 2) 1)) (.node x l r) (Nat.beq n 0)) t

structure St where
  mem : List (Nat × List Val)
  next : Nat
  base : Nat
  rd : List Nat
  wr : List Nat

noncomputable def look (id : Nat) (m : List (Nat × List Val)) : Option (List Val) :=
  List.rec (motive := fun _ => Option (List Val)) none (fun p _ ih => Bool.rec (motive := fun _ => Option (List Val)) ih (some p.2) (Nat.beq p.1 id)) m
noncomputable def del (id : Nat) (m : List (Nat × List Val)) : List (Nat × List Val) :=
  List.rec (motive := fun _ => List (Nat × List Val)) [] (fun p _ ih => Bool.rec (motive := fun _ => List (Nat × List Val)) (p :: ih) ih (Nat.beq p.1 id)) m
noncomputable def upd (id : Nat) (c : List Val) (m : List (Nat × List Val)) : List (Nat × List Val) :=
  List.rec (motive := fun _ => List (Nat × List Val)) [] (fun p m ih => Bool.rec (motive := fun _ => List (Nat × List Val)) (p :: ih) ((p.1, c) :: m) (Nat.beq p.1 id)) m
/-- Without the blocks of a range. -/
noncomputable def shed (lo hi : Nat) (m : List (Nat × List Val)) : List (Nat × List Val) :=
  List.rec (motive := fun _ => List (Nat × List Val)) [] (fun p _ ih => Bool.rec (motive := fun _ => List (Nat × List Val)) (p :: ih) (Bool.rec (motive := fun _ => List (Nat × List Val)) (p :: ih) ih (Nat.ble (p.1 + 1) hi)) (Nat.ble lo p.1)) m
noncomputable def has (id : Nat) (l : List Nat) : Bool :=
  List.rec (motive := fun _ => Bool) false (fun k _ ih => Bool.rec (motive := fun _ => Bool) ih true (Nat.beq k id)) l
theorem look_nil (id : Nat) : look id [] = none := rfl
theorem look_c (id k : Nat) (c : List Val) (m : List (Nat × List Val)) : look id ((k, c) :: m) = match Nat.beq k id with
    | true => some c
    | false => look id m := by
  show Bool.rec (motive := fun _ => Option (List Val)) (look id m) (some c) (Nat.beq k id) = _
  cases Nat.beq k id <;> rfl
theorem del_nil (id : Nat) : del id [] = [] := rfl
theorem del_c (id k : Nat) (c : List Val) (m : List (Nat × List Val)) : del id ((k, c) :: m) = match Nat.beq k id with
    | true => del id m
    | false => (k, c) :: del id m := by
  show Bool.rec (motive := fun _ => List (Nat × List Val)) ((k, c) :: del id m) (del id m) (Nat.beq k id) = _
  cases Nat.beq k id <;> rfl
theorem upd_nil (id : Nat) (d : List Val) : upd id d [] = [] := rfl
theorem upd_c (id : Nat) (d : List Val) (k : Nat) (c : List Val) (m : List (Nat × List Val)) : upd id d ((k, c) :: m) = match Nat.beq k id with
    | true => (k, d) :: m
    | false => (k, c) :: upd id d m := by
  show Bool.rec (motive := fun _ => List (Nat × List Val)) ((k, c) :: upd id d m) ((k, d) :: m) (Nat.beq k id) = _
  cases Nat.beq k id <;> rfl
theorem shed_nil (lo hi : Nat) : shed lo hi [] = [] := rfl
theorem shed_c (lo hi k : Nat) (c : List Val) (m : List (Nat × List Val)) : shed lo hi ((k, c) :: m) = match Nat.ble lo k && Nat.ble (k + 1) hi with
    | true => shed lo hi m
    | false => (k, c) :: shed lo hi m := by
  show Bool.rec (motive := fun _ => List (Nat × List Val)) ((k, c) :: shed lo hi m) (Bool.rec (motive := fun _ => List (Nat × List Val)) ((k, c) :: shed lo hi m) (shed lo hi m) (Nat.ble (k + 1) hi)) (Nat.ble lo k) = _
  cases Nat.ble lo k <;> cases Nat.ble (k + 1) hi <;> rfl
theorem has_nil (id : Nat) : has id [] = false := rfl
theorem has_c (id k : Nat) (l : List Nat) : has id (k :: l) = match Nat.beq k id with
    | true => true
    | false => has id l := by
  show Bool.rec (motive := fun _ => Bool) (has id l) true (Nat.beq k id) = _
  cases Nat.beq k id <;> rfl
def note (base id : Nat) (l : List Nat) : List Nat :=
  match Nat.ble base id with
  | true => l
  | false => match has id l with
    | true => l
    | false => id :: l

abbrev M (α : Type) := St → Option (α × St)
@[inline] def M.pure {α : Type} (a : α) : M α := fun s => some (a, s)
@[inline] def M.bind {α β : Type} (p : M α) (f : α → M β) : M β := fun s => match p s with
  | some (a, s') => f a s'
  | none => none
instance : Monad M where
  pure := M.pure
  bind := M.bind
def fail {α : Type} : M α := fun _ => none
def ofOpt {α : Type} : Option α → M α
  | some a => M.pure a
  | none => fail
def must (b : Bool) : M Unit := match b with
  | true => M.pure ()
  | false => fail
def get (id : Nat) : M (List Val) := fun s => match look id s.mem with
  | some b => some (b, { s with rd := note s.base id s.rd })
  | none => none
def set (id : Nat) (c : List Val) : M Unit := fun s => match look id s.mem with
  | some _ => some ((), { s with mem := upd id c s.mem, wr := note s.base id s.wr })
  | none => none
def kill (id : Nat) : M Unit := fun s => match look id s.mem with
  | some _ => some ((), { s with mem := del id s.mem, wr := note s.base id s.wr })
  | none => none
def new (c : List Val) : M Nat := fun s => some (s.next, { s with mem := (s.next, c) :: s.mem, next := s.next + 1 })

def below (n : Nat) : List Nat → List Nat
  | [] => []
  | k :: l => match Nat.ble n k with
    | true => below n l
    | false => k :: below n l
noncomputable def joinN (base : Nat) (r : List Nat) : List Nat → List Nat :=
  List.rec (motive := fun _ => List Nat → List Nat) (fun l => l) (fun k _ ih l => ih (note base k l)) r

theorem joinN_nil (base : Nat) (l : List Nat) : joinN base [] l = l := rfl
theorem joinN_c (base k : Nat) (r l : List Nat) : joinN base (k :: r) l = joinN base r (note base k l) := rfl

structure Foot where
  at_ : Nat
  rd : List Nat
  wr : List Nat
  lo : Nat
  hi : Nat
/-- A part of its own: what it touches of the blocks that are there is told. -/
def fenced {α : Type} (i : Nat) (p : M α) : M (α × Foot) := fun s => match p { s with base := s.next, rd := [], wr := [] } with
  | some (a, s') => some ((a, ⟨i, s'.rd, s'.wr, s.next, s'.next⟩), ⟨s'.mem, s'.next, s.base, joinN s.base s'.rd s.rd, joinN s.base s'.wr s.wr⟩)
  | none => none

mutual
def Val.val? : Val → Option Value
  | .sc v => some v
  | .agg cs => (vals? cs).map fun l => .agg l.toArray
  | .tup cs => (vals? cs).map fun l => .tuple l.toArray
  | .fn f a b => match vals? a, vals? b with
    | some a, some b => some (.func f a.toArray b.toArray)
    | _, _ => none
  | .ifc t v => v.val?.map (.iface t)
  | _ => none
def vals? : List Val → Option (List Value)
  | [] => some []
  | v :: vs => match v.val?, vals? vs with
    | some x, some l => some (x :: l)
    | _, _ => none
end

def ofV0 : Value → Val
  | .agg cs => .agg (cs.toList.map .sc)
  | v => .sc v
def ofV : Value → Val
  | .agg cs => .agg (cs.toList.map .sc)
  | .tuple cs => .tup (cs.toList.map ofV0)
  | .iface t v => .ifc t (ofV0 v)
  | .func f a b => .fn f (a.toList.map .sc) (b.toList.map .sc)
  | v => .sc v

def Val.cells : Val → List Val
  | .agg cs => cs
  | v => [v]
def single : Value → Bool
  | .agg _ | .tuple _ => false
  | _ => true
def Val.one : Val → Bool
  | .sc v => single v
  | .agg _ | .tup _ => false
  | _ => true
def ones : List Val → Bool
  | [] => true
  | v :: l => match v.one with
    | true => ones l
    | false => false

def pureSem {α : Type} (P : Program) : Sem α → Option α
  | .pure a => some a
  | .program k => pureSem P (k P)
  | .mark _ k => pureSem P k
  | _ => none

section
variable (P : Program)

def aggD : TypeDesc → Bool
  | .struct _ | .array _ _ => true
  | _ => false
/-- How many cells a value of the type is read from; is it an aggregate? -/
def shape? (t : TypeId) : Option (Nat × Bool) := match P.underlying t, P.info? t with
  | some d, some i => some (match aggD d with | true => i.size | false => 1, aggD d)
  | _, _ => none
def shut (agg : Bool) (cs : List Val) : Option Val :=
  match agg with
  | true => some (.agg cs)
  | false => match cs with
    | [v] => some v
    | _ => none
/-- So many cells from a place on. -/
def cut (n off : Nat) (b : List Val) : Option (List Val) :=
  match Nat.ble (off + n) b.length with
  | true => some ((b.drop off).take n)
  | false => none
def lay (off : Nat) (cs b : List Val) : Option (List Val) :=
  match Nat.ble (off + cs.length) b.length with
  | true => some (b.take off ++ (cs ++ b.drop (off + cs.length)))
  | false => none

def knownSize (t : TypeId) : Option Nat := (P.info? t).map (·.size)

def evLoad (t : TypeId) (a : Val) : M Val := do
  let n ← ofOpt (shape? P t)
  match a with
  | .ref id off => do
    let b ← get id
    let cs ← ofOpt (cut n.1 off b)
    ofOpt (shut n.2 cs)
  | .fpt cs => do
    let cs ← ofOpt (cut n.1 0 cs)
    ofOpt (shut n.2 cs)
  | _ => fail

def evStore (t : TypeId) (a x : Val) : M Val := do
  let n ← ofOpt (knownSize P t)
  match a with
  | .ref id off => do
    must (Nat.beq x.cells.length n && ones x.cells)
    let b ← get id
    let b' ← ofOpt (lay off x.cells b)
    set id b'
    pure U
  | _ => fail

def zeroV (t : TypeId) : Option Val := match (P.info? t).bind (·.zero) with
  | some v => match ones (ofV v).cells with
    | true => some (ofV v)
    | false => none
  | none => none

def evNew (c : List Val) : M Val := do
  must (ones c)
  let id ← new c
  pure (.ref id 0)

def fillV (place : Nat → Option (Nat × Nat)) (cells : List Val) : List (Nat × Val) → Option (List Val)
  | [] => some cells
  | (i, v) :: rest => match place i with
    | none => none
    | some (off, size) => match Nat.beq v.cells.length size && ones v.cells with
      | true => match lay off v.cells cells with
        | some c => fillV place c rest
        | none => none
      | false => none

def fieldPlaces (fields : Array Field) (i : Nat) : Option (Nat × Nat) := match fields[i]? with
  | some f => match knownSize P f.type with
    | some n => some (f.offset, n)
    | none => none
  | none => none
def sizeIs (t : TypeId) (n : Nat) : Bool := match knownSize P t with
  | some m => Nat.beq m n
  | none => false

def evBuild (t : TypeId) (parts : List (Nat × Val)) : Option Val := do
  let z ← zeroV P t
  match P.underlying t with
  | some (.struct fields) => match fields.toList.all fun f => (P.info? f.type).isSome with
    | true => match fillV (fieldPlaces P fields) z.cells parts with
      | some cs => some (.agg cs)
      | none => none
    | false => none
  | some (.array _ elem) => do
    let n ← knownSize P elem
    match fillV (fun i => some (i * n, n)) z.cells parts with
    | some cs => some (.agg cs)
    | none => none
  | _ => none

def rep : Nat → List Val → List Val
  | 0, _ => []
  | n + 1, l => l ++ rep n l

def sliceOf (t : TypeId) : Option TypeId := match P.underlying t with
  | some (.slice e) => some e
  | _ => none

def evBuildSlice (t : TypeId) (len : Nat) (parts : List (Nat × Val)) : M Val := do
  let elem ← ofOpt (sliceOf P t)
  let n ← ofOpt (knownSize P elem)
  let z ← ofOpt (zeroV P elem)
  must (Nat.beq z.cells.length n && Nat.ble 1 n && Nat.ble (len * n) 16777216)
  let cs ← ofOpt (fillV (fun i => some (i * n, n)) (rep len z.cells) parts)
  let id ← new cs
  pure (.row id 0 len n (some len))

def natOf : Val → Option Nat
  | .sc (.int _ (.ofNat n)) => some n
  | _ => none

def evMakeSlice (t : TypeId) (len cap : Val) : M Val := do
  let elem ← ofOpt (sliceOf P t)
  let n ← ofOpt (knownSize P elem)
  let i ← ofOpt (P.info? elem)
  let z ← ofOpt (zeroV P elem)
  let l ← ofOpt (natOf len)
  let c ← ofOpt (natOf cap)
  must (Nat.beq z.cells.length n && Nat.ble 1 n && Nat.ble l c && Nat.ble (i.bytes * c) 281474976710656 && Nat.ble c 281474976710656)
  let id ← new (rep c z.cells)
  pure (.row id 0 l n (some c))

def evFieldAddr (s : TypeId) (x : Val) (f : Nat) : Option Val :=
  match P.underlying s with
  | some (.struct fields) => match fields[f]? with
    | some fd => match knownSize P fd.type with
      | some (_ + 1) => match x with
        | .ref id off => some (.ref id (off + fd.offset))
        | .fpt cs => some (.fpt (cs.drop fd.offset))
        | _ => none
      | _ => none
    | none => none
  | _ => none

def evIndexAddr (t : TypeId) (x i : Val) : Option Val :=
  match natOf i with
  | none => none
  | some i => match P.underlying t, x with
    | some (.slice elem), .row id off len sz _ => match Nat.ble (i + 1) len && sizeIs P elem sz with
      | true => some (.ref id (off + i * sz))
      | false => none
    | some (.slice elem), .fro es => (es[i]?).bind fun cs => match sizeIs P elem cs.length with
      | true => some (.fpt cs)
      | false => none
    | some (.array len elem), .ref id off => match Nat.ble (i + 1) len with
      | true => (knownSize P elem).map fun n => .ref id (off + i * n)
      | false => none
    | some (.array len elem), .fpt cs => match Nat.ble (i + 1) len with
      | true => (knownSize P elem).map fun n => .fpt (cs.drop (i * n))
      | false => none
    | _, _ => none

def evField (t : TypeId) (x : Val) (f : Nat) : Option Val :=
  match P.underlying t with
  | some (.struct fields) => match fields[f]?, x with
    | some fd, .agg cs => do
      let n ← shape? P fd.type
      let cs ← cut n.1 fd.offset cs
      shut n.2 cs
    | _, _ => none
  | _ => none

def evIndex (t : TypeId) (x i : Val) : Option Val :=
  match natOf i with
  | none => none
  | some i => match P.underlying t, x with
    | some (.array len elem), .agg cs => match Nat.ble (i + 1) len with
      | true => do
        let m ← knownSize P elem
        let n ← shape? P elem
        let cs ← cut n.1 (i * m) cs
        shut n.2 cs
      | false => none
    | _, _ => none

def optNat : Option Val → Option (Option Nat)
  | none => some none
  | some v => match natOf v with
    | some n => some (some n)
    | none => none

def capGe (cap : Option Nat) (h : Nat) : Bool := match cap with
  | some c => Nat.ble h c
  | none => false
def sizeAt (elem : TypeId) (e : Option (List Val)) : Bool := match e with
  | some e => sizeIs P elem e.length
  | none => true
def arrayOf (t : TypeId) : Option (Nat × TypeId) := match P.underlying t with
  | some (.array n e) => some (n, e)
  | _ => none
/-- xs[l:h:m] -/
def evSlice (t : TypeId) (x : Val) (lo hi mx : Option Val) : M Val := do
  let lo ← ofOpt (optNat lo)
  let hi ← ofOpt (optNat hi)
  let mx ← ofOpt (optNat mx)
  match x with
  | .row id off len sz cap => do
    let elem ← ofOpt (sliceOf P t)
    must (sizeIs P elem sz && Nat.ble (lo.getD 0) (hi.getD len) && (Nat.ble (hi.getD len) len || capGe cap (hi.getD len)))
    match mx with
    | none => match cap with
      | none => pure (.row id (off + lo.getD 0 * sz) (hi.getD len - lo.getD 0) sz none)
      | some c => pure (.row id (off + lo.getD 0 * sz) (hi.getD len - lo.getD 0) sz (some (c - lo.getD 0)))
    | some m => do
      must (hi.isSome && Nat.ble (hi.getD len) m && (Nat.ble m len || capGe cap m))
      pure (.row id (off + lo.getD 0 * sz) (hi.getD len - lo.getD 0) sz (some (m - lo.getD 0)))
  | .fro es => do
    let elem ← ofOpt (sliceOf P t)
    must ((knownSize P elem).isSome && sizeAt P elem (es[lo.getD 0]?) && Nat.ble (lo.getD 0) (hi.getD es.length) && Nat.ble (hi.getD es.length) es.length)
    match mx with
    | none => pure (.fro ((es.drop (lo.getD 0)).take (hi.getD es.length - lo.getD 0)))
    | some m => do
      must (hi.isSome && Nat.beq (hi.getD es.length) 0 && Nat.beq m 0)
      pure .emp
  | .ref id off => do
    let r ← ofOpt (arrayOf P t)
    let sz ← ofOpt (knownSize P r.2)
    let b ← get id
    must (Nat.ble (off + r.1 * sz) b.length && Nat.ble (lo.getD 0) (hi.getD r.1) && Nat.ble (hi.getD r.1) r.1 && mx.isNone)
    pure (.row id (off + lo.getD 0 * sz) (hi.getD r.1 - lo.getD 0) sz (some (r.1 - lo.getD 0)))
  | _ => fail

/-- The cells of what is appended. -/
def srcCells (sz : Nat) (x : Val) : M (List Val) :=
  match x with
  | .row id off len sz' _ => do
    must (Nat.beq sz' sz)
    let b ← get id
    ofOpt (cut (len * sz) off b)
  | .fro es => do
    must (es.all fun e => Nat.beq e.length sz)
    pure es.flatten
  | .emp => pure []
  | .sc (.slice none 0 0) => pure []
  | .sc (.string s) => do
    must (Nat.beq sz 1)
    pure (s.data.toList.map fun b => .sc (.int .u8 b.toNat))
  | _ => fail

def srcLen : Val → Option Nat
  | .row _ _ len _ _ => some len
  | .fro es => some es.length
  | .emp => some 0
  | .sc (.slice none 0 0) => some 0
  | .sc (.string s) => some s.size
  | _ => none

def isInt (t : TypeId) : Option Bool := match P.underlying t with
  | some (.int _) => some true
  | some _ => some false
  | none => none
def isRow : Val → Bool
  | .row .. | .emp | .fro _ | .sc (.slice none 0 0) => true
  | _ => false
/-- Cells behind a row's. -/
def evGrow (sz n : Nat) (new' : List Val) (s : Val) : M Val :=
  match s with
  | .row id off len sz' cap => do
    must (Nat.beq sz' sz && Nat.ble (len + n) 1073741824)
    let b ← get id
    match cap with
    | some c => match Nat.ble (len + n) c with
      | true => do
        let b' ← ofOpt (lay (off + len * sz) new' b)
        set id b'
        pure (.row id off (len + n) sz (some c))
      | false => do
        let old ← ofOpt (cut (len * sz) off b)
        let k ← new (old ++ new')
        pure (.row k 0 (len + n) sz none)
    | none => do
      must (Nat.beq (off + len * sz) b.length)
      let old ← ofOpt (cut (len * sz) off b)
      kill id
      let k ← new (old ++ new')
      pure (.row k 0 (len + n) sz none)
  | .emp | .sc (.slice none 0 0) => do
    must (Nat.ble n 1073741824)
    let k ← new new'
    pure (.row k 0 n sz none)
  | _ => fail
def evAppend (t u : TypeId) (s x : Val) : M Val := do
  let elem ← ofOpt (sliceOf P t)
  let int ← ofOpt (isInt P u)
  let sz ← ofOpt (knownSize P elem)
  let i ← ofOpt (P.info? elem)
  let z ← ofOpt (zeroV P elem)
  let n ← ofOpt (srcLen x)
  must (!int && Nat.ble 1 sz && Nat.ble i.bytes 65536 && isRow s)
  match n with
  | 0 => pure s
  | n + 1 => do
    let new' ← srcCells sz x
    must (Nat.beq z.cells.length sz && ones new')
    evGrow sz (n + 1) new' s

/-- One side is no nil, the other is. -/
def nilSide (d : TypeDesc) (x y : Val) : Bool :=
  match d with
  | .slice _ => match x, y with
    | .row .., .sc (.slice none _ _) | .emp, .sc (.slice none _ _) | .fro _, .sc (.slice none _ _) => true
    | _, _ => false
  | .pointer _ => match x, y with
    | .ref .., .sc (.pointer none) | .fpt _, .sc (.pointer none) => true
    | _, _ => false
  | .func .. => match x, y with
    | .fn .., .sc .nilFunc => true
    | _, _ => false
  | .interface _ => match x, y with
    | .ifc .., .sc .nilIface => true
    | _, _ => false
  | _ => false

def evEq (op : BinOp) (t : TypeId) (x y : Val) : Option Val :=
  match P.underlying t with
  | some d => match nilSide d x y || nilSide d y x with
    | true => match op with
      | .eql => some (.sc (.bool false))
      | .neq => some (.sc (.bool true))
      | _ => none
    | false => none
  | none => none

/-- What is known of comparisons and remainders of numbers that aren't known. -/
def bounds : Val → Option (IntKind × Int × Int)
  | .sc (.int k n) => some (k, n, n)
  | .ab k lo hi _ _ => some (k, lo, hi)
  | _ => none
def cmpAb (op : BinOp) (a b c d : Int) : Option Bool :=
  match op with
  | .lss => if b < c then some true else if d ≤ a then some false else none
  | .leq => if b ≤ c then some true else if d < a then some false else none
  | .gtr => if d < a then some true else if b ≤ c then some false else none
  | .geq => if d ≤ a then some true else if b < c then some false else none
  | .eql => if b < c then some false else if d < a then some false else none
  | .neq => if b < c then some true else if d < a then some true else none
  | _ => none
def lookW (op : BinOp) (j : Nat) : List Fact → Option Bool
  | [] => none
  | .with_ op' j' b :: l => match decide (op = op') && Nat.beq j' j with
    | true => some b
    | false => lookW op j l
  | _ :: l => lookW op j l
def lookC (op : BinOp) (c : Int) : List Fact → Option Bool
  | [] => none
  | .const op' c' b :: l => match decide (op = op') && decide (c' = c) with
    | true => some b
    | false => lookC op c l
  | _ :: l => lookC op c l
def evSy (op : BinOp) (k : IntKind) (fs : List Fact) : Val → Option Bool
  | .sy k' j _ => match decide (k = k') with
    | true => lookW op j fs
    | false => none
  | .sc (.int k' c) => match decide (k = k') with
    | true => lookC op c fs
    | false => none
  | _ => none
def lookM (j : Nat) : List Fact → Option (Nat × Bool)
  | [] => none
  | .made j' l z :: r => match Nat.beq j' j with
    | true => some (l, z)
    | false => lookM j r
  | _ :: r => lookM j r
def evNot (k : IntKind) (fs : List Fact) : Val → Option Val
  | .sy k' j _ => match decide (k = k') with
    | true => match lookM j fs with
      | some (l, z) => some (.sy .u64 l [.const .eql 0 z])
      | none => none
    | false => none
  | _ => none
def evAb (op : BinOp) (x y : Val) : Option Val :=
  match op, x, y with
  | .andNot, .sy k _ fs, y => evNot k fs y
  | .rem, .ab k lo _ m r, .sc (.int k' n) => match decide (k = k') && decide (0 ≤ lo) && decide (n = (m : Int)) && Nat.ble 1 m with
    | true => some (.sc (.int k (r : Nat)))
    | false => none
  | op, .sy k _ fs, y => match evSy op k fs y with
    | some b => some (.sc (.bool b))
    | none => none
  | op, x, y => match bounds x, bounds y with
    | some (k, a, b), some (k', c, d) => match decide (k = k') with
      | true => match cmpAb op a b c d with
        | some b => some (.sc (.bool b))
        | none => none
      | false => none
    | _, _ => none
/-- Are two numbers equal? -/
def eqAb (x y : Val) : Option Bool := match evAb .eql x y with
  | some (.sc (.bool b)) => some b
  | _ => match x, y with
    | .sc (.int k a), .sc (.int k' b) => match decide (k = k') with
      | true => some (a == b)
      | false => none
    | _, _ => none
def fieldsOf (t : TypeId) : Option (List Field) := match P.underlying t with
  | some (.struct fields) => some fields.toList
  | _ => none
/-- Structs of two numbers. -/
def evEq2 (op : BinOp) (t : TypeId) (x y : Val) : Option Val := match x, y with
  | .agg [a, c], .agg [b, d] => match fieldsOf P t with
    | some [f, g] => match isInt P f.type == some true && isInt P g.type == some true && f.name != "_" && g.name != "_" && Nat.beq f.offset 0 && Nat.beq g.offset 1 && !P.stoodInHeld t && !P.eqGuardType P.depth t with
      | true => match eqAb a b, eqAb c d with
        | some p, some q => match op with
          | .eql => some (.sc (.bool (p && q)))
          | .neq => some (.sc (.bool !(p && q)))
          | _ => none
        | _, _ => none
      | false => none
    | _ => none
  | _, _ => none
def evAbConv (dst : TypeId) (x : Val) : Option Val :=
  match P.underlying dst, x with
  | some (.int k), .ab _ lo hi m r => match decide (k.min ≤ lo) && decide (hi ≤ k.max) with
    | true => some (.ab k lo hi m r)
    | false => none
  | _, _ => none

def bytesT (t : TypeId) : Bool := match sliceOf P t with
  | some e => match P.underlying e with
    | some (.int .u8) => true
    | _ => false
  | none => false
def stringT (t : TypeId) : Bool := match P.underlying t with
  | some .string => true
  | _ => false
def evBytes : List Val → Option (List Int)
  | [] => some []
  | .sc (.int .u8 n) :: l => match evBytes l with
    | some r => some (n :: r)
    | none => none
  | _ => none
/- Bytes of strings: lists that are walked by the recursor. -/
def lenL (l : List UInt8) : Nat := List.rec (motive := fun _ => Nat) 0 (fun _ _ ih => Nat.add ih 1) l
def dropL (n : Nat) : List UInt8 → List UInt8 :=
  Nat.rec (motive := fun _ => List UInt8 → List UInt8) (fun l => l) (fun _ ih l => List.rec (motive := fun _ => List UInt8) [] (fun _ t _ => ih t) l) n
def takeL (n : Nat) : List UInt8 → List UInt8 :=
  Nat.rec (motive := fun _ => List UInt8 → List UInt8) (fun _ => []) (fun _ ih l => List.rec (motive := fun _ => List UInt8) [] (fun b t _ => b :: ih t) l) n
def nthL (n : Nat) : List UInt8 → Option UInt8 :=
  Nat.rec (motive := fun _ => List UInt8 → Option UInt8) (fun l => List.rec (motive := fun _ => Option UInt8) none (fun b _ _ => some b) l) (fun _ ih l => List.rec (motive := fun _ => Option UInt8) none (fun _ t _ => ih t) l) n
def bytesL (l : List Int) : List UInt8 := List.rec (motive := fun _ => List UInt8) [] (fun n _ ih => UInt8.ofNat n.toNat :: ih) l
def packBytes (l : List Int) : ByteArray := ⟨⟨bytesL l⟩⟩
def strSlice (t : TypeId) (x : Value) (lo hi mx : Option Val) : Option Val := match x, mx with
  | .string s, none => match stringT P t, optNat lo, optNat hi with
    | true, some l, some h => match Nat.ble (l.getD 0) (h.getD (lenL s.data.toList)) && Nat.ble (h.getD (lenL s.data.toList)) (lenL s.data.toList) with
      | true => some (.sc (.string ⟨⟨match h with
        | none => dropL (l.getD 0) s.data.toList
        | some h => takeL (h - l.getD 0) (dropL (l.getD 0) s.data.toList)⟩⟩))
      | false => none
    | _, _, _ => none
  | _, _ => none
def strIndex (t : TypeId) (x : Value) (i : Val) : Option Val := match stringT P t, x, natOf i with
  | true, .string s, some n => match nthL n s.data.toList with
    | some b => some (.sc (.int .u8 b.toNat))
    | none => none
  | _, _, _ => none
def evConvert (src dst : TypeId) (x : Val) : M Val :=
  match x with
  | .row id off len sz _ => do
    must (bytesT P src && stringT P dst && Nat.beq sz 1)
    let b ← get id
    let cs ← ofOpt (cut len off b)
    let l ← ofOpt (evBytes cs)
    pure (.sc (.string (packBytes l)))
  | .sc (.string s) => do
    must (stringT P src && bytesT P dst)
    let k ← new (s.data.toList.map fun b => .sc (.int .u8 b.toNat))
    pure (.row k 0 s.size 1 none)
  | .ab k lo hi m r => ofOpt (match P.underlying src with
    | some _ => evAbConv P dst (.ab k lo hi m r)
    | none => none)
  | _ => fail

def evAssert (x : Val) (asserted : TypeId) (ok : Bool) : Option Val :=
  match P.underlying asserted, x with
  | some (.interface _), _ => none
  | some _, .ifc t v => match Nat.beq t asserted with
    | true => some (match ok with | true => .tup [v, .sc (.bool true)] | false => v)
    | false => match ok with
      | true => (zeroV P asserted).map fun z => .tup [z, .sc (.bool false)]
      | false => none
  | _, _ => none

def evScalar (ρ : Operand → Val) (o : Oper) : Option Val :=
  match o.op.operands.all (fun x => (ρ x).val?.isSome) with
  | true => match pureSem P (execOp (fun x => (ρ x).val?.getD undef) o) with
    | some (.value v) => some (ofV v)
    | _ => none
  | false => none

abbrev CallF := FuncId → List Val → M Val

def rowArg (c : Call) : Option TypeId := match c.argTypes[0]? with
  | some t => sliceOf P t
  | none => none

def evCall (call : CallF) (ρ : Operand → Val) (o : Oper) (c : Call) : M Val :=
  match c.callee with
  | .value f => match ρ f with
    | .fn (.func g) a b => call g (a ++ (c.args.toList.map ρ ++ b))
    | _ => fail
  | .builtin b => match b, c.args.toList.map ρ with
    | .len, [.row _ _ n _ _] => do
      let _ ← ofOpt (rowArg P c)
      pure (.sc (.int .i64 (n : Nat)))
    | .len, [.fro es] => do
      let _ ← ofOpt (rowArg P c)
      pure (.sc (.int .i64 (es.length : Nat)))
    | .len, [.sc (.string b)] => ofOpt (match c.argTypes[0]? with
      | some t => match stringT P t with
        | true => some (.sc (.int .i64 (lenL b.data.toList)))
        | false => none
      | none => none)
    | .len, [.emp] => do
      let _ ← ofOpt (rowArg P c)
      pure (.sc (.int .i64 0))
    | .cap, [.row _ _ _ _ (some n)] => do
      let _ ← ofOpt (rowArg P c)
      pure (.sc (.int .i64 (n : Nat)))
    | .append, [s, x] => do
      let t ← ofOpt (c.argTypes[0]?)
      let u ← ofOpt (c.argTypes[1]?)
      evAppend P t u s x
    | _, _ => ofOpt (evScalar P ρ o)
  | _ => fail

def evOp (call : CallF) (ρ : Operand → Val) (o : Oper) : M Val :=
  match o.op with
  | .move x | .assign x => pure (ρ x)
  | .pick c a b => match ρ c with
    | .sc (.bool true) => pure (ρ a)
    | .sc (.bool false) => pure (ρ b)
    | _ => fail
  | .alloc t => do
    let z ← ofOpt (zeroV P t)
    evNew z.cells
  | .box _ x => evNew (ρ x).cells
  | .build t parts => ofOpt (evBuild P t (parts.toList.map fun p => (p.1, ρ p.2)))
  | .buildSlice t len parts => evBuildSlice P t len (parts.toList.map fun p => (p.1, ρ p.2))
  | .load t a => evLoad P t (ρ a)
  | .store t a x => evStore P t (ρ a) (ρ x)
  | .nilCheck x => match ρ x with
    | .ref id off => pure (.ref id off)
    | .fpt cs => pure (.fpt cs)
    | .fn (.func f) a b => pure (.fn (.func f) a b)
    | .ifc t v => pure (.ifc t v)
    | _ => fail
  | .makeInterface t x => match P.underlying t with
    | some (.interface _) => fail
    | some _ => pure (.ifc t (ρ x))
    | none => fail
  | .makeFunc f first cap => pure (.fn f (first.toList.map ρ) (cap.toList.map ρ))
  | .makeSlice t l c => evMakeSlice P t (ρ l) (ρ c)
  | .slice t x lo hi mx => match ρ x with
    | .sc v => ofOpt (match strSlice P t v (lo.map ρ) (hi.map ρ) (mx.map ρ) with
      | some r => some r
      | none => evScalar P ρ o)
    | _ => evSlice P t (ρ x) (lo.map ρ) (hi.map ρ) (mx.map ρ)
  | .fieldAddr s x f => ofOpt (evFieldAddr P s (ρ x) f)
  | .field t x f => ofOpt (evField P t (ρ x) f)
  | .indexAddr t x i => ofOpt (evIndexAddr P t (ρ x) (ρ i))
  | .index t x i => match ρ x with
    | .agg _ => ofOpt (evIndex P t (ρ x) (ρ i))
    | .sc v => ofOpt (match strIndex P t v (ρ i) with
      | some r => some r
      | none => evScalar P ρ o)
    | _ => ofOpt (evScalar P ρ o)
  | .extract x i => match ρ x with
    | .tup vs => ofOpt (vs[i]?)
    | _ => fail
  | .typeAssert x _ t ok => match ρ x with
    | .ifc _ _ => ofOpt (match evAssert P (ρ x) t ok with
      | some v => some v
      | none => evScalar P ρ o)
    | _ => ofOpt (evScalar P ρ o)
  | .binOp op t x y _ => match evEq P op t (ρ x) (ρ y) with
    | some v => pure v
    | none => match evAb op (ρ x) (ρ y) with
      | some v => pure v
      | none => match evEq2 P op t (ρ x) (ρ y) with
        | some v => pure v
        | none => ofOpt (evScalar P ρ o)
  | .convert src dst x => match evScalar P ρ o with
    | some v => pure v
    | none => evConvert P src dst (ρ x)
  | .unOp .. => ofOpt (evScalar P ρ o)
  | .call c => evCall P call ρ o c
  | _ => fail
end

/- The same, by branches that are told apart by the recursor: what a branch does not need is not copied. -/
abbrev Br := Program → CallF → (Operand → Val) → Oper → M Val
def br_move (x : Operand) : Br := fun _ _ ρ _ => pure (ρ x)
def br_assign (x : Operand) : Br := fun _ _ ρ _ => pure (ρ x)
def br_pick (c : Operand) (a : Operand) (b : Operand) : Br := fun _ _ ρ _ => match ρ c with
    | .sc (.bool true) => pure (ρ a)
    | .sc (.bool false) => pure (ρ b)
    | _ => fail
def br_alloc (t : TypeId) : Br := fun P _ _ _ => do
    let z ← ofOpt (zeroV P t)
    evNew z.cells
def br_box (_a0 : TypeId) (x : Operand) : Br := fun _ _ ρ _ => evNew (ρ x).cells
def br_build (t : TypeId) (parts : Array (Nat × Operand)) : Br := fun P _ ρ _ => ofOpt (evBuild P t (parts.toList.map fun p => (p.1, ρ p.2)))
def br_buildSlice (t : TypeId) (len : Nat) (parts : Array (Nat × Operand)) : Br := fun P _ ρ _ => evBuildSlice P t len (parts.toList.map fun p => (p.1, ρ p.2))
def br_load (t : TypeId) (a : Operand) : Br := fun P _ ρ _ => evLoad P t (ρ a)
def br_store (t : TypeId) (a : Operand) (x : Operand) : Br := fun P _ ρ _ => evStore P t (ρ a) (ρ x)
def br_nilCheck (x : Operand) : Br := fun _ _ ρ _ => match ρ x with
    | .ref id off => pure (.ref id off)
    | .fpt cs => pure (.fpt cs)
    | .fn (.func f) a b => pure (.fn (.func f) a b)
    | .ifc t v => pure (.ifc t v)
    | _ => fail
def br_binOp (op : BinOp) (t : TypeId) (x : Operand) (y : Operand) (_a4 : TypeId) : Br := fun P _ ρ o => match evEq P op t (ρ x) (ρ y) with
    | some v => pure v
    | none => match evAb op (ρ x) (ρ y) with
      | some v => pure v
      | none => match evEq2 P op t (ρ x) (ρ y) with
        | some v => pure v
        | none => ofOpt (evScalar P ρ o)
def br_unOp (_a0 : UnOp) (_a1 : TypeId) (_a2 : Operand) : Br := fun P _ ρ o => ofOpt (evScalar P ρ o)
def br_convert (src : TypeId) (dst : TypeId) (x : Operand) : Br := fun P _ ρ o => match evScalar P ρ o with
    | some v => pure v
    | none => evConvert P src dst (ρ x)
def br_makeInterface (t : TypeId) (x : Operand) : Br := fun P _ ρ _ => match P.underlying t with
    | some (.interface _) => fail
    | some _ => pure (.ifc t (ρ x))
    | none => fail
def br_makeFunc (f : Fn) (first : Array Operand) (cap : Array Operand) : Br := fun _ _ ρ _ => pure (.fn f (first.toList.map ρ) (cap.toList.map ρ))
def br_makeSlice (t : TypeId) (l : Operand) (c : Operand) : Br := fun P _ ρ _ => evMakeSlice P t (ρ l) (ρ c)
def br_slice (t : TypeId) (x : Operand) (lo : Option Operand) (hi : Option Operand) (mx : Option Operand) : Br := fun P _ ρ o => match ρ x with
    | .sc v => ofOpt (match strSlice P t v (lo.map ρ) (hi.map ρ) (mx.map ρ) with
      | some r => some r
      | none => evScalar P ρ o)
    | _ => evSlice P t (ρ x) (lo.map ρ) (hi.map ρ) (mx.map ρ)
def br_fieldAddr (s : TypeId) (x : Operand) (f : Nat) : Br := fun P _ ρ _ => ofOpt (evFieldAddr P s (ρ x) f)
def br_field (t : TypeId) (x : Operand) (f : Nat) : Br := fun P _ ρ _ => ofOpt (evField P t (ρ x) f)
def br_indexAddr (t : TypeId) (x : Operand) (i : Operand) : Br := fun P _ ρ _ => ofOpt (evIndexAddr P t (ρ x) (ρ i))
def br_index (t : TypeId) (x : Operand) (i : Operand) : Br := fun P _ ρ o => match ρ x with
    | .agg _ => ofOpt (evIndex P t (ρ x) (ρ i))
    | .sc v => ofOpt (match strIndex P t v (ρ i) with
      | some r => some r
      | none => evScalar P ρ o)
    | _ => ofOpt (evScalar P ρ o)
def br_typeAssert (x : Operand) (_a1 : TypeId) (t : TypeId) (ok : Bool) : Br := fun P _ ρ o => match ρ x with
    | .ifc _ _ => ofOpt (match evAssert P (ρ x) t ok with
      | some v => some v
      | none => evScalar P ρ o)
    | _ => ofOpt (evScalar P ρ o)
def br_extract (x : Operand) (i : Nat) : Br := fun _ _ ρ _ => match ρ x with
    | .tup vs => ofOpt (vs[i]?)
    | _ => fail
def br_call (c : Call) : Br := fun P call ρ o => evCall P call ρ o c
def br_no : Br := fun _ _ _ _ => fail
def evTab (x : Op) : Br := Op.rec (motive := fun _ => Br) br_move br_assign br_pick br_alloc br_box br_build br_buildSlice (fun _ _ _ _ => br_no) br_load br_store (fun _ => br_no) (fun _ => br_no) br_nilCheck br_binOp br_unOp br_convert (fun _ _ => br_no) br_makeInterface br_makeFunc (fun _ _ => br_no) (fun _ _ => br_no) br_makeSlice br_slice br_fieldAddr br_field br_indexAddr br_index (fun _ _ _ _ => br_no) (fun _ _ _ _ => br_no) (fun _ _ _ => br_no) (fun _ _ _ _ => br_no) (fun _ _ => br_no) (fun _ _ => br_no) (fun _ => br_no) br_typeAssert br_extract br_call (fun _ => br_no) (fun _ => br_no) (fun _ => br_no) (fun _ _ => br_no) (fun _ _ _ => br_no) (fun _ _ => br_no) x
def evOpF (P : Program) (call : CallF) (ρ : Operand → Val) (o : Oper) : M Val := evTab o.op P call ρ o
theorem evOpF_eq (P : Program) (call : CallF) (ρ : Operand → Val) (o : Oper) : evOpF P call ρ o = evOp P call ρ o := by
  unfold evOpF evOp
  cases o.op <;> rfl

section
variable (P : Program)

def evOperand (a : Tr) : Operand → Val
  | .tmp t => a.get t
  | .const v => ofV v
  | .func f => .fn (.func f) [] []
  | .global g => .sc (.pointer (some ⟨g, 0, none⟩))

def evYield (ops : Array Oper) (a : Tr) (j : Nat) : Option Bool :=
  match (ops[j]?).bind (·.dst) with
  | some t => match a.get t with
    | .sc (.bool b) => some b
    | _ => none
  | none => none
def evWanted (ops : Array Oper) (a : Tr) (o : Oper) : Bool :=
  match o.guard with
  | none => true
  | some (j, w) => match evYield ops a j with
    | some b => b == w
    | none => false
def evPut (nt : Nat) (a : Tr) (d : Option Nat) (v : Val) : Option Tr := match d with
  | some d => match Nat.ble (d + 1) nt with
    | true => some (a.put d v)
    | false => none
  | none => some a

/-- An operation that may not be wanted. -/
def evGuarded (call : CallF) (ops : Array Oper) (a : Tr) (o : Oper) : M Val := match evWanted ops a o with
  | true => evOpF P call (evOperand a) o
  | false => pure U

def evOps (call : CallF) (nt : Nat) (ops : Array Oper) : List Oper → Tr → M Tr
  | [], a => pure a
  | o :: l, a => do
    let v ← evGuarded P call ops a o
    let a ← ofOpt (evPut nt a o.dst v)
    evOps call nt ops l a

def meets : List Nat → List Nat → Bool
  | [], _ => false
  | k :: l, r => match has k r with
    | true => true
    | false => meets l r
def within (lo hi : Nat) : List Nat → Bool
  | [] => false
  | k :: l => match Nat.ble lo k && Nat.ble (k + 1) hi with
    | true => true
    | false => within lo hi l
def apart (x y : Foot) : Bool :=
  !(meets x.wr y.rd || meets x.wr y.wr || meets y.wr x.rd || within x.lo x.hi y.rd || within x.lo x.hi y.wr)

/-- What must be ahead of an operation. -/
def maskOf (acc : List Nat) : List Edge → Nat
  | [] => 0
  | e :: es => match Region.binds .any e with
    | true => Nat.lor (Nat.lor (2 ^ e.on) (acc.getD e.on 0)) (maskOf acc es)
    | false => maskOf acc es
def masks : List Oper → List Nat → List Nat
  | [], acc => acc
  | o :: l, acc => masks l (acc ++ [maskOf acc o.after.toList])
def edgesOk : Nat → List Oper → Bool
  | _, [] => true
  | i, o :: l => (o.after.toList.all fun e => !Region.binds .any e || Nat.ble (e.on + 1) i) && edgesOk (i + 1) l
def noPick (o : Oper) : Bool := match o.op with
  | .select .. => false
  | _ => true
/-- Slots of two operations that may come in either order. -/
def slotsApart (ops : Array Oper) (x y : Oper) : Bool :=
  (match x.dst with
   | some d => !(y.looksAt ops).contains d && y.dst != some d
   | none => true) &&
  (match y.dst with
   | some d => !(x.looksAt ops).contains d
   | none => true)
def slotsOk (ops : Array Oper) (B : List Nat) : Nat → List Oper → Bool
  | _, [] => true
  | i, x :: l => (l.zipIdx (i + 1)).all (fun y => slotsApart ops x y.1 || (B.getD y.2 0).testBit i) && slotsOk ops B (i + 1) l
def regionOk (ops : Array Oper) : Bool :=
  edgesOk 0 ops.toList && ops.toList.all noPick && slotsOk ops (masks ops.toList []) 0 ops.toList

/-- Operations in the text's order, each as a part of its own; what each has touched. -/
def evDrawn (call : CallF) (nt : Nat) (ops : Array Oper) : Nat → List Oper → Tr → M (List Foot × Tr)
  | _, [], a => pure ([], a)
  | i, o :: l, a => do
    let r ← fenced i (evGuarded P call ops a o)
    let a' ← ofOpt (evPut nt a o.dst r.1)
    let t ← evDrawn call nt ops (i + 1) l a'
    pure (r.2 :: t.1, t.2)

def clashFree (B : List Nat) : List Foot → Bool
  | [] => true
  | x :: l => (l.all fun y => apart x y || (B.getD y.at_ 0).testBit x.at_) && clashFree B l

end

inductive Ex where
  | normal
  | exit (id : Nat)
  | goto (l : Nat)
  | ret

def hasLabel (l : Nat) : Code → Bool
  | .seq x y => hasLabel l x || hasLabel l y
  | .label k => Nat.beq k l
  | _ => false

/-- A loop, at most so many rounds. -/
def evLoop (body : Tr → M (Ex × Tr)) : Nat → Tr → M (Ex × Tr)
  | 0, _ => fail
  | n + 1, a => do
    let r ← body a
    match r with
    | (.normal, a) => evLoop body n a
    | (e, a) => pure (e, a)

/-- A scope: what jumps to a label of its own goes on from there. -/
def evScope (from_ : Option Nat → Tr → M (Ex × Tr)) (mine : Nat → Bool) : Nat → Option Nat → Tr → M (Ex × Tr)
  | 0, _, _ => fail
  | n + 1, l, a => do
    let r ← from_ l a
    match r with
    | (.goto k, a) => match mine k with
      | true => evScope from_ mine n (some k) a
      | false => pure (.goto k, a)
    | (e, a) => pure (e, a)

section
variable (P : Program) (call : CallF) (lf nt : Nat)

def evRegion (ops : Array Oper) (draw : Bool) (a : Tr) : M Tr :=
  match draw with
  | false => evOps P call nt ops ops.toList a
  | true => do
    let r ← evDrawn P call nt ops 0 ops.toList a
    must (regionOk ops && clashFree (masks ops.toList []) r.1)
    pure r.2

/-- The code from its beginning, or from a label on. -/
def evCode : Code → Option Nat → Tr → M (Ex × Tr)
  | .seq x y, some l, a => match hasLabel l x with
    | true => do
      let r ← evCode x (some l) a
      match r with
      | (.normal, a) => evCode y none a
      | (e, a) => pure (e, a)
    | false => evCode y (some l) a
  | .label _, some _, a => pure (.normal, a)
  | _, some _, _ => fail
  | .skip, none, a => pure (.normal, a)
  | .label _, none, a => pure (.normal, a)
  | .region _ ops draw, none, a => do
    let a ← evRegion P call nt ops draw a
    pure (.normal, a)
  | .seq x y, none, a => do
    let r ← evCode x none a
    match r with
    | (.normal, a) => evCode y none a
    | (e, a) => pure (e, a)
  | .cond c x y, none, a => match evOperand a c with
    | .sc (.bool true) => evCode x none a
    | .sc (.bool false) => evCode y none a
    | _ => fail
  | .block id c, none, a => do
    let r ← evCode c none a
    match r with
    | (.exit k, a) => match Nat.beq k id with
      | true => pure (.normal, a)
      | false => pure (.exit k, a)
    | (e, a) => pure (e, a)
  | .loop c, none, a => evLoop (evCode c none) lf a
  | .exit id, none, a => pure (.exit id, a)
  | .scope c, none, a => evScope (evCode c) (fun l => hasLabel l c) lf none a
  | .goto l, none, a => pure (.goto l, a)
  | .ret, none, a => pure (.ret, a)
  | _, none, _ => fail

/- The code, by the recursor. -/
abbrev CB := Program → CallF → Nat → Nat → Option Nat → Tr → M (Ex × Tr)
def cStay (e : Ex) : CB := fun _ _ _ _ l a => match l with
  | none => pure (e, a)
  | some _ => fail
def cLabel (_ : Nat) : CB := fun _ _ _ _ _ a => pure (.normal, a)
def cFail : CB := fun _ _ _ _ _ _ => fail
def cRegion (_ : Nat) (ops : Array Oper) (draw : Bool) : CB := fun P call _ nt l a => match l with
  | none => do
    let a ← evRegion P call nt ops draw a
    pure (.normal, a)
  | some _ => fail
def cThen (g : Tr → M (Ex × Tr)) (r : Ex × Tr) : M (Ex × Tr) := match r with
  | (.normal, a) => g a
  | (e, a) => pure (e, a)
def cSeq (x _ : Code) (f g : CB) : CB := fun P call lf nt l a => match l with
  | none => do
    let r ← f P call lf nt none a
    cThen (g P call lf nt none) r
  | some l => match hasLabel l x with
    | true => do
      let r ← f P call lf nt (some l) a
      cThen (g P call lf nt none) r
    | false => g P call lf nt (some l) a
def cCond (c : Operand) (_ _ : Code) (f g : CB) : CB := fun P call lf nt l a => match l with
  | none => match evOperand a c with
    | .sc (.bool true) => f P call lf nt none a
    | .sc (.bool false) => g P call lf nt none a
    | _ => fail
  | some _ => fail
def cBlock (id : Nat) (_ : Code) (f : CB) : CB := fun P call lf nt l a => match l with
  | none => do
    let r ← f P call lf nt none a
    match r with
    | (.exit k, a) => match Nat.beq k id with
      | true => pure (.normal, a)
      | false => pure (.exit k, a)
    | (e, a) => pure (e, a)
  | some _ => fail
def cLoop (_ : Code) (f : CB) : CB := fun P call lf nt l a => match l with
  | none => evLoop (f P call lf nt none) lf a
  | some _ => fail
def cScope (c : Code) (f : CB) : CB := fun P call lf nt l a => match l with
  | none => evScope (f P call lf nt) (fun l => hasLabel l c) lf none a
  | some _ => fail
def cTab (c : Code) : CB := Code.rec (motive := fun _ => CB) (cStay .normal) cRegion cSeq cCond cBlock cLoop (fun _ _ _ _ _ _ => cFail) (fun id => cStay (.exit id)) cScope cLabel (fun l => cStay (.goto l)) (cStay .ret) (fun _ => cFail) c
theorem cTab_eq (P : Program) (call : CallF) (lf nt : Nat) (c : Code) : ∀ (l : Option Nat) (a : Tr), cTab c P call lf nt l a = evCode P call lf nt c l a := by
  induction c with
  | seq x y ihx ihy =>
    intro l a
    show cSeq x y (cTab x) (cTab y) P call lf nt l a = _
    have e : cTab y P call lf nt none = evCode P call lf nt y none := funext fun a => ihy none a
    cases l with
    | none =>
      unfold cSeq evCode
      simp only [ihx, e]
      rfl
    | some l =>
      unfold cSeq evCode
      simp only [ihx, ihy, e]
      rfl
  | cond c x y ihx ihy =>
    intro l a
    show cCond c x y (cTab x) (cTab y) P call lf nt l a = _
    cases l with
    | none =>
      unfold cCond evCode
      simp only [ihx, ihy]
    | some l => rfl
  | block id x ih =>
    intro l a
    show cBlock id x (cTab x) P call lf nt l a = _
    cases l with
    | none =>
      unfold cBlock evCode
      simp only [ih]
    | some l => rfl
  | loop x ih =>
    intro l a
    show cLoop x (cTab x) P call lf nt l a = _
    cases l with
    | none =>
      unfold cLoop evCode
      rw [show cTab x P call lf nt none = evCode P call lf nt x none from funext fun a => ih none a]
    | some l => rfl
  | scope x ih =>
    intro l a
    show cScope x (cTab x) P call lf nt l a = _
    cases l with
    | none =>
      unfold cScope evCode
      rw [show cTab x P call lf nt = evCode P call lf nt x from funext fun l => funext fun a => ih l a]
    | some l => rfl
  | _ => intro l a; cases l <;> rfl

def evResults (P : Program) (a : Tr) : List ResultVar → M (List Val)
  | [] => pure []
  | .tmp t :: l => do
    let r ← evResults P a l
    pure (a.get t :: r)
  | .cell x t :: l => do
    let v ← evLoad P t (a.get x)
    let r ← evResults P a l
    pure (v :: r)

def putArgs (nt : Nat) : Nat → List Val → Tr → Option Tr
  | _, [], a => some a
  | n, v :: l, a => match evPut nt a (some n) v with
    | some a => putArgs nt (n + 1) l a
    | none => none

def evBody (P : Program) (call : CallF) (lf : Nat) (fn : Func) (c : Code) (args : List Val) : M Val := do
  must (Nat.ble fn.ntmps 65000)
  let a ← ofOpt (putArgs fn.ntmps 0 args .leaf)
  let r ← cTab c P call lf fn.ntmps none a
  match r with
  | (.normal, a) | (.ret, a) => do
    let vs ← evResults P a fn.results.toList
    match vs with
    | [v] => pure v
    | vs => pure (.tup vs)
  | _ => fail

/-- Nothing is handed back that lies in a block made by the call, and no older block was written: its blocks are let go. -/
def tidy (p : M Val) : M Val := fun s => match p { s with base := s.next, rd := [], wr := [] } with
  | some (v, s') => match v.val?.isSome && s'.wr.isEmpty with
    | true => some (v, ⟨shed s.next s'.next s'.mem, s'.next, s.base, joinN s.base s'.rd s.rd, joinN s.base s'.wr s.wr⟩)
    | false => some (v, ⟨s'.mem, s'.next, s.base, joinN s.base s'.rd s.rd, joinN s.base s'.wr s.wr⟩)
  | none => none
end

/-- Functions whose contracts are known: what they tell of their arguments. -/
abbrev Ext := FuncId → List Val → Option Val

def evFn (P : Program) (X : Ext) (F : FuncId → Option Func) (lf : Nat) : Nat → CallF
  | 0, _, _ => fail
  | n + 1, f, args => match X f args with
   | some v => pure v
   | none => match F f with
    | some fn => match fn.body with
      | some c => tidy (evBody P (evFn P X F lf n) lf fn c args)
      | none => fail
    | none => fail

def start : St := ⟨[], 0, 0, [], []⟩
def truthOf (P : Program) (X : Ext) (F : FuncId → Option Func) (lf n : Nat) (f : FuncId) (args : List Val) : Option Bool :=
  match evFn P X F lf n f args start with
  | some (.sc (.bool b), _) => some b
  | _ => none
def truth (P : Program) (X : Ext) (F : FuncId → Option Func) (lf n : Nat) (f : FuncId) (args : List Val) : Bool :=
  match truthOf P X F lf n f args with
  | some b => b
  | none => false
theorem truth_of {P : Program} {X : Ext} {F : FuncId → Option Func} {lf n : Nat} {f : FuncId} {args : List Val} (h : truth P X F lf n f args = true) : truthOf P X F lf n f args = some true := by
  unfold truth at h
  split at h
  · rename_i b hb; subst h; exact hb
  · cases h
end
end Go.Proofs.Ytjgdcifbhmjinaa.Ev
